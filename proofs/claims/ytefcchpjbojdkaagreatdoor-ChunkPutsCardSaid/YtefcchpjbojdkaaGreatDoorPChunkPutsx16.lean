/- WRITTEN BY A PROGRAM of this session (wip/tool: a turned copy of the printer), out of the translation: Lean functions with the answers of the Go functions, and the proofs that the Go code comes to them. -/
import Derived.Test.YtefcchpjbojdkaaGreatDoorPChunkPutsx0
namespace Go.Proofs.YtefcchpjbojdkaaGreatDoor.PChunkPuts
open Go.RowKit Go.Proofs.YtefcchpjbojdkaaGreatDoorW.PrintWords Go.Proofs.YtefcchpjbojdkaaGreatDoorW.PrintLast Go.Proofs.YtefcchpjbojdkaaGreatDoorW.PrintMore
attribute [local go_sem] max2_int min2_int max_two min_two max_three min_three max_four min_four   -- for this text's walks alone
set_option linter.unusedVariables false
set_option linter.unusedSimpArgs false

/-! ### estreatref14_Of: function 15 -/
def estreatref14_Of.f (a0 : Int) (a1 : Int) : Option (Bool) := if a1 = 1 then (if a0 ≥ 0 then (if a0 ≤ 4 then (some true) else (if a1 = 2 then (some (a0 == 5)) else (some false))) else (if a1 = 2 then (some (a0 == 5)) else (some false))) else (if a1 = 2 then (some (a0 == 5)) else (some false))
set_option maxHeartbeats 8000000 in
set_option maxRecDepth 100000 in
theorem estreatref14_Of.calls (a0 : Int) (a1 : Int) (r : Bool) (w : World) (h : estreatref14_Of.f a0 a1 = some r) :
  Calls Tryz.prog 15 #[.int .i64 a0, .int .i64 a1] w fun e w' => e = .returned (.bool r) ∧ Drawn0 w w' := by
 have H : (if a1 = 1 then (if a0 ≥ 0 then (if a0 ≤ 4 then (some true) else (if a1 = 2 then (some (a0 == 5)) else (some false))) else (if a1 = 2 then (some (a0 == 5)) else (some false))) else (if a1 = 2 then (some (a0 == 5)) else (some false))) = some r := h
 clear h
 by_cases c3 : a1 = 1
 ·rw [if_pos c3] at H
  have c3b0 : (a1 == 1) = true := beq_iff_eq.mpr c3
  have c3b1 : (a1 != 1) = false := bne_eq_false_iff_eq.mpr c3
  clear c3
  by_cases c4 : a0 ≥ 0
  ·rw [if_pos c4] at H
   have c4b0 : decide (0 ≤ a0) = true := decide_eq_true c4
   clear c4
   by_cases c5 : a0 ≤ 4
   ·rw [if_pos c5] at H
    have c5b0 : decide (a0 ≤ 4) = true := decide_eq_true c5
    clear c5
    obtain rfl := Option.some.inj H
    go_enter Tryz.func15, Tryz.ntmps15
    go_wp2
    go_ret
    exact ⟨by first | rfl | (simp; done) | (simp [*]; done), by repeat (first | exact Drawn0.refl _ | apply Drawn0.step)⟩
   ·rw [if_neg c5] at H
    have c5b0 : decide (a0 ≤ 4) = false := decide_eq_false c5
    clear c5
    by_cases c6 : a1 = 2
    ·rw [if_pos c6] at H
     have c6b0 : (a1 == 2) = true := beq_iff_eq.mpr c6
     have c6b1 : (a1 != 2) = false := bne_eq_false_iff_eq.mpr c6
     clear c6
     obtain rfl := Option.some.inj H
     go_enter Tryz.func15, Tryz.ntmps15
     go_wp2
     go_ret
     exact ⟨by first | rfl | (simp; done) | (simp [*]; done), by repeat (first | exact Drawn0.refl _ | apply Drawn0.step)⟩
    ·rw [if_neg c6] at H
     have c6b0 : (a1 == 2) = false := beq_eq_false_iff_ne.mpr c6
     have c6b1 : (a1 != 2) = true := bne_iff_ne.mpr c6
     obtain rfl := Option.some.inj H
     go_enter Tryz.func15, Tryz.ntmps15
     go_wp2
     go_ret
     exact ⟨by first | rfl | (simp; done) | (simp [*]; done), by repeat (first | exact Drawn0.refl _ | apply Drawn0.step)⟩
  ·rw [if_neg c4] at H
   have c4b0 : decide (0 ≤ a0) = false := decide_eq_false c4
   clear c4
   by_cases c7 : a1 = 2
   ·rw [if_pos c7] at H
    have c7b0 : (a1 == 2) = true := beq_iff_eq.mpr c7
    have c7b1 : (a1 != 2) = false := bne_eq_false_iff_eq.mpr c7
    clear c7
    obtain rfl := Option.some.inj H
    go_enter Tryz.func15, Tryz.ntmps15
    go_wp2
    go_ret
    exact ⟨by first | rfl | (simp; done) | (simp [*]; done), by repeat (first | exact Drawn0.refl _ | apply Drawn0.step)⟩
   ·rw [if_neg c7] at H
    have c7b0 : (a1 == 2) = false := beq_eq_false_iff_ne.mpr c7
    have c7b1 : (a1 != 2) = true := bne_iff_ne.mpr c7
    obtain rfl := Option.some.inj H
    go_enter Tryz.func15, Tryz.ntmps15
    go_wp2
    go_ret
    exact ⟨by first | rfl | (simp; done) | (simp [*]; done), by repeat (first | exact Drawn0.refl _ | apply Drawn0.step)⟩
 ·rw [if_neg c3] at H
  have c3b0 : (a1 == 1) = false := beq_eq_false_iff_ne.mpr c3
  have c3b1 : (a1 != 1) = true := bne_iff_ne.mpr c3
  by_cases c8 : a1 = 2
  ·rw [if_pos c8] at H
   have c8b0 : (a1 == 2) = true := beq_iff_eq.mpr c8
   have c8b1 : (a1 != 2) = false := bne_eq_false_iff_eq.mpr c8
   clear c8
   obtain rfl := Option.some.inj H
   go_enter Tryz.func15, Tryz.ntmps15
   go_wp2
   go_ret
   exact ⟨by first | rfl | (simp; done) | (simp [*]; done), by repeat (first | exact Drawn0.refl _ | apply Drawn0.step)⟩
  ·rw [if_neg c8] at H
   have c8b0 : (a1 == 2) = false := beq_eq_false_iff_ne.mpr c8
   have c8b1 : (a1 != 2) = true := bne_iff_ne.mpr c8
   obtain rfl := Option.some.inj H
   go_enter Tryz.func15, Tryz.ntmps15
   go_wp2
   go_ret
   exact ⟨by first | rfl | (simp; done) | (simp [*]; done), by repeat (first | exact Drawn0.refl _ | apply Drawn0.step)⟩

/-! ### estreatref14_Right: function 24 -/
def estreatref14_Right.f (a0_0 : Int) (a0_1 : Int) (a0_2 : ByteArray) (a1 : Int) : Option (Bool) := if a0_0 = 0 then (if a0_1 = 0 then (some (a0_2.toList == ([] : List UInt8))) else (some false)) else (if a0_0 = a1 then (if a1 = 1 then (if a0_2.toList = ([] : List UInt8) then (some true) else (if a1 = 2 then (some (a0_1 == 0)) else (some false))) else (if a1 = 2 then (some (a0_1 == 0)) else (some false))) else (some false))
set_option maxHeartbeats 8000000 in
set_option maxRecDepth 100000 in
theorem estreatref14_Right.calls (a0_0 : Int) (a0_1 : Int) (a0_2 : ByteArray) (a1 : Int) (r : Bool) (w : World) (h : estreatref14_Right.f a0_0 a0_1 a0_2 a1 = some r) :
  Calls Tryz.prog 24 #[.agg #[.int .i64 a0_0, .int .i64 a0_1, .string a0_2], .int .i64 a1] w fun e w' => e = .returned (.bool r) ∧ Below w.heap.size w w' := by
 have hu34 := Tryz.underlying34
 have HB := Aside0.mk (Below.refl w.heap.size w)
 have H : (if a0_0 = 0 then (if a0_1 = 0 then (some (a0_2.toList == ([] : List UInt8))) else (some false)) else (if a0_0 = a1 then (if a1 = 1 then (if a0_2.toList = ([] : List UInt8) then (some true) else (if a1 = 2 then (some (a0_1 == 0)) else (some false))) else (if a1 = 2 then (some (a0_1 == 0)) else (some false))) else (some false))) = some r := h
 clear h
 by_cases c3 : a0_0 = 0
 ·rw [if_pos c3] at H
  have c3b0 : (a0_0 == 0) = true := beq_iff_eq.mpr c3
  have c3b1 : (a0_0 != 0) = false := bne_eq_false_iff_eq.mpr c3
  clear c3
  by_cases c4 : a0_1 = 0
  ·rw [if_pos c4] at H
   have c4b0 : (a0_1 == 0) = true := beq_iff_eq.mpr c4
   have c4b1 : (a0_1 != 0) = false := bne_eq_false_iff_eq.mpr c4
   clear c4
   obtain rfl := Option.some.inj H
   go_enter Tryz.func24, Tryz.ntmps24
   go_wp2_with (first | ((with_reducible refine gate_dst (N := 2) rfl ?_); refine box_event ?hg (N := 2) ?hd (cs := #[.int .i64 a0_0, .int .i64 a0_1, .string a0_2]) (t := 34) ?hr ?_; (case hd => rfl); (case hg => rfl); (case hr => first | (go_simp; done) | (go_simp; rfl)); intro gb597 hg w5 hbox hb; have n0_ := Aside0.mk (below_step (BU HB.out) hb); have n1_ := Aside0.mk (hbox); have n2_ := Aside0.mk ((by rw [hg]; exact (below_size (BU HB.out)) : w.heap.size ≤ gb597)); have n3_ := Aside0.mk ((by rw [hg]; exact (below_size (BU HB.out)) : w.heap.size ≤ gb597)); clear HB; have HB := n0_; have BK597 := n1_; have GW597 := n2_; have GE597 := n3_; clear n0_ n1_ n2_ n3_; clear hb hbox hg; have hcz6_0 : w5.cell? ⟨gb597, 0, none⟩ = some (.int .i64 a0_0) := (blk_cell BK597.out 0).trans rfl; have hcz6_1 : w5.cell? ⟨gb597, 1, none⟩ = some (.int .i64 a0_1) := (blk_cell BK597.out 1).trans rfl; have hcz6_2 : w5.cell? ⟨gb597, 2, none⟩ = some (.string a0_2) := (blk_cell BK597.out 2).trans rfl; have hfz6_0 := blk_frozen BK597.out 0; have hfz6_1 := blk_frozen BK597.out 1; have hfz6_2 := blk_frozen BK597.out 2))
   go_ret
   exact ⟨by first | rfl | (simp [errW_none, errW_some] <;> rfl) | (simp [*, errW_none, errW_some] <;> rfl), by repeat (first | (with_reducible first | exact HB.out | apply below_alloc | apply pw_below_drewN | apply below_drew1 | refine below_set ?_ GE597.out) | exact HB.out)⟩
  ·rw [if_neg c4] at H
   have c4b0 : (a0_1 == 0) = false := beq_eq_false_iff_ne.mpr c4
   have c4b1 : (a0_1 != 0) = true := bne_iff_ne.mpr c4
   obtain rfl := Option.some.inj H
   go_enter Tryz.func24, Tryz.ntmps24
   go_wp2_with (first | ((with_reducible refine gate_dst (N := 2) rfl ?_); refine box_event ?hg (N := 2) ?hd (cs := #[.int .i64 a0_0, .int .i64 a0_1, .string a0_2]) (t := 34) ?hr ?_; (case hd => rfl); (case hg => rfl); (case hr => first | (go_simp; done) | (go_simp; rfl)); intro gb597 hg w7 hbox hb; have n0_ := Aside0.mk (below_step (BU HB.out) hb); have n1_ := Aside0.mk (hbox); have n2_ := Aside0.mk ((by rw [hg]; exact (below_size (BU HB.out)) : w.heap.size ≤ gb597)); have n3_ := Aside0.mk ((by rw [hg]; exact (below_size (BU HB.out)) : w.heap.size ≤ gb597)); clear HB; have HB := n0_; have BK597 := n1_; have GW597 := n2_; have GE597 := n3_; clear n0_ n1_ n2_ n3_; clear hb hbox hg; have hcz8_0 : w7.cell? ⟨gb597, 0, none⟩ = some (.int .i64 a0_0) := (blk_cell BK597.out 0).trans rfl; have hcz8_1 : w7.cell? ⟨gb597, 1, none⟩ = some (.int .i64 a0_1) := (blk_cell BK597.out 1).trans rfl; have hcz8_2 : w7.cell? ⟨gb597, 2, none⟩ = some (.string a0_2) := (blk_cell BK597.out 2).trans rfl; have hfz8_0 := blk_frozen BK597.out 0; have hfz8_1 := blk_frozen BK597.out 1; have hfz8_2 := blk_frozen BK597.out 2))
   go_ret
   exact ⟨by first | rfl | (simp [errW_none, errW_some] <;> rfl) | (simp [*, errW_none, errW_some] <;> rfl), by repeat (first | (with_reducible first | exact HB.out | apply below_alloc | apply pw_below_drewN | apply below_drew1 | refine below_set ?_ GE597.out) | exact HB.out)⟩
 ·rw [if_neg c3] at H
  have c3b0 : (a0_0 == 0) = false := beq_eq_false_iff_ne.mpr c3
  have c3b1 : (a0_0 != 0) = true := bne_iff_ne.mpr c3
  by_cases c9 : a0_0 = a1
  ·rw [if_pos c9] at H
   have c9b0 : (a0_0 == a1) = true := beq_iff_eq.mpr c9
   have c9b1 : (a0_0 != a1) = false := bne_eq_false_iff_eq.mpr c9
   clear c9
   by_cases c10 : a1 = 1
   ·rw [if_pos c10] at H
    have c10b0 : (a1 == 1) = true := beq_iff_eq.mpr c10
    have c10b1 : (a1 != 1) = false := bne_eq_false_iff_eq.mpr c10
    clear c10
    by_cases c11 : a0_2.toList = ([] : List UInt8)
    ·rw [if_pos c11] at H
     have c11b0 : (a0_2.toList == ([] : List UInt8)) = true := beq_iff_eq.mpr c11
     have c11b1 : (a0_2.toList != ([] : List UInt8)) = false := bne_eq_false_iff_eq.mpr c11
     clear c11
     obtain rfl := Option.some.inj H
     go_enter Tryz.func24, Tryz.ntmps24
     go_wp2_with (first | ((with_reducible refine gate_dst (N := 2) rfl ?_); refine box_event ?hg (N := 2) ?hd (cs := #[.int .i64 a0_0, .int .i64 a0_1, .string a0_2]) (t := 34) ?hr ?_; (case hd => rfl); (case hg => rfl); (case hr => first | (go_simp; done) | (go_simp; rfl)); intro gb597 hg w12 hbox hb; have n0_ := Aside0.mk (below_step (BU HB.out) hb); have n1_ := Aside0.mk (hbox); have n2_ := Aside0.mk ((by rw [hg]; exact (below_size (BU HB.out)) : w.heap.size ≤ gb597)); have n3_ := Aside0.mk ((by rw [hg]; exact (below_size (BU HB.out)) : w.heap.size ≤ gb597)); clear HB; have HB := n0_; have BK597 := n1_; have GW597 := n2_; have GE597 := n3_; clear n0_ n1_ n2_ n3_; clear hb hbox hg; have hcz13_0 : w12.cell? ⟨gb597, 0, none⟩ = some (.int .i64 a0_0) := (blk_cell BK597.out 0).trans rfl; have hcz13_1 : w12.cell? ⟨gb597, 1, none⟩ = some (.int .i64 a0_1) := (blk_cell BK597.out 1).trans rfl; have hcz13_2 : w12.cell? ⟨gb597, 2, none⟩ = some (.string a0_2) := (blk_cell BK597.out 2).trans rfl; have hfz13_0 := blk_frozen BK597.out 0; have hfz13_1 := blk_frozen BK597.out 1; have hfz13_2 := blk_frozen BK597.out 2))
     go_ret
     exact ⟨by first | rfl | (simp [errW_none, errW_some] <;> rfl) | (simp [*, errW_none, errW_some] <;> rfl), by repeat (first | (with_reducible first | exact HB.out | apply below_alloc | apply pw_below_drewN | apply below_drew1 | refine below_set ?_ GE597.out) | exact HB.out)⟩
    ·rw [if_neg c11] at H
     have c11b0 : (a0_2.toList == ([] : List UInt8)) = false := beq_eq_false_iff_ne.mpr c11
     have c11b1 : (a0_2.toList != ([] : List UInt8)) = true := bne_iff_ne.mpr c11
     by_cases c14 : a1 = 2
     ·rw [if_pos c14] at H
      have c14b0 : (a1 == 2) = true := beq_iff_eq.mpr c14
      have c14b1 : (a1 != 2) = false := bne_eq_false_iff_eq.mpr c14
      clear c14
      obtain rfl := Option.some.inj H
      go_enter Tryz.func24, Tryz.ntmps24
      go_wp2_with (first | ((with_reducible refine gate_dst (N := 2) rfl ?_); refine box_event ?hg (N := 2) ?hd (cs := #[.int .i64 a0_0, .int .i64 a0_1, .string a0_2]) (t := 34) ?hr ?_; (case hd => rfl); (case hg => rfl); (case hr => first | (go_simp; done) | (go_simp; rfl)); intro gb597 hg w15 hbox hb; have n0_ := Aside0.mk (below_step (BU HB.out) hb); have n1_ := Aside0.mk (hbox); have n2_ := Aside0.mk ((by rw [hg]; exact (below_size (BU HB.out)) : w.heap.size ≤ gb597)); have n3_ := Aside0.mk ((by rw [hg]; exact (below_size (BU HB.out)) : w.heap.size ≤ gb597)); clear HB; have HB := n0_; have BK597 := n1_; have GW597 := n2_; have GE597 := n3_; clear n0_ n1_ n2_ n3_; clear hb hbox hg; have hcz16_0 : w15.cell? ⟨gb597, 0, none⟩ = some (.int .i64 a0_0) := (blk_cell BK597.out 0).trans rfl; have hcz16_1 : w15.cell? ⟨gb597, 1, none⟩ = some (.int .i64 a0_1) := (blk_cell BK597.out 1).trans rfl; have hcz16_2 : w15.cell? ⟨gb597, 2, none⟩ = some (.string a0_2) := (blk_cell BK597.out 2).trans rfl; have hfz16_0 := blk_frozen BK597.out 0; have hfz16_1 := blk_frozen BK597.out 1; have hfz16_2 := blk_frozen BK597.out 2))
      go_ret
      exact ⟨by first | rfl | (simp [errW_none, errW_some] <;> rfl) | (simp [*, errW_none, errW_some] <;> rfl), by repeat (first | (with_reducible first | exact HB.out | apply below_alloc | apply pw_below_drewN | apply below_drew1 | refine below_set ?_ GE597.out) | exact HB.out)⟩
     ·rw [if_neg c14] at H
      have c14b0 : (a1 == 2) = false := beq_eq_false_iff_ne.mpr c14
      have c14b1 : (a1 != 2) = true := bne_iff_ne.mpr c14
      obtain rfl := Option.some.inj H
      go_enter Tryz.func24, Tryz.ntmps24
      go_wp2_with (first | ((with_reducible refine gate_dst (N := 2) rfl ?_); refine box_event ?hg (N := 2) ?hd (cs := #[.int .i64 a0_0, .int .i64 a0_1, .string a0_2]) (t := 34) ?hr ?_; (case hd => rfl); (case hg => rfl); (case hr => first | (go_simp; done) | (go_simp; rfl)); intro gb597 hg w17 hbox hb; have n0_ := Aside0.mk (below_step (BU HB.out) hb); have n1_ := Aside0.mk (hbox); have n2_ := Aside0.mk ((by rw [hg]; exact (below_size (BU HB.out)) : w.heap.size ≤ gb597)); have n3_ := Aside0.mk ((by rw [hg]; exact (below_size (BU HB.out)) : w.heap.size ≤ gb597)); clear HB; have HB := n0_; have BK597 := n1_; have GW597 := n2_; have GE597 := n3_; clear n0_ n1_ n2_ n3_; clear hb hbox hg; have hcz18_0 : w17.cell? ⟨gb597, 0, none⟩ = some (.int .i64 a0_0) := (blk_cell BK597.out 0).trans rfl; have hcz18_1 : w17.cell? ⟨gb597, 1, none⟩ = some (.int .i64 a0_1) := (blk_cell BK597.out 1).trans rfl; have hcz18_2 : w17.cell? ⟨gb597, 2, none⟩ = some (.string a0_2) := (blk_cell BK597.out 2).trans rfl; have hfz18_0 := blk_frozen BK597.out 0; have hfz18_1 := blk_frozen BK597.out 1; have hfz18_2 := blk_frozen BK597.out 2))
      go_ret
      exact ⟨by first | rfl | (simp [errW_none, errW_some] <;> rfl) | (simp [*, errW_none, errW_some] <;> rfl), by repeat (first | (with_reducible first | exact HB.out | apply below_alloc | apply pw_below_drewN | apply below_drew1 | refine below_set ?_ GE597.out) | exact HB.out)⟩
   ·rw [if_neg c10] at H
    have c10b0 : (a1 == 1) = false := beq_eq_false_iff_ne.mpr c10
    have c10b1 : (a1 != 1) = true := bne_iff_ne.mpr c10
    by_cases c19 : a1 = 2
    ·rw [if_pos c19] at H
     have c19b0 : (a1 == 2) = true := beq_iff_eq.mpr c19
     have c19b1 : (a1 != 2) = false := bne_eq_false_iff_eq.mpr c19
     clear c19
     obtain rfl := Option.some.inj H
     go_enter Tryz.func24, Tryz.ntmps24
     go_wp2_with (first | ((with_reducible refine gate_dst (N := 2) rfl ?_); refine box_event ?hg (N := 2) ?hd (cs := #[.int .i64 a0_0, .int .i64 a0_1, .string a0_2]) (t := 34) ?hr ?_; (case hd => rfl); (case hg => rfl); (case hr => first | (go_simp; done) | (go_simp; rfl)); intro gb597 hg w20 hbox hb; have n0_ := Aside0.mk (below_step (BU HB.out) hb); have n1_ := Aside0.mk (hbox); have n2_ := Aside0.mk ((by rw [hg]; exact (below_size (BU HB.out)) : w.heap.size ≤ gb597)); have n3_ := Aside0.mk ((by rw [hg]; exact (below_size (BU HB.out)) : w.heap.size ≤ gb597)); clear HB; have HB := n0_; have BK597 := n1_; have GW597 := n2_; have GE597 := n3_; clear n0_ n1_ n2_ n3_; clear hb hbox hg; have hcz21_0 : w20.cell? ⟨gb597, 0, none⟩ = some (.int .i64 a0_0) := (blk_cell BK597.out 0).trans rfl; have hcz21_1 : w20.cell? ⟨gb597, 1, none⟩ = some (.int .i64 a0_1) := (blk_cell BK597.out 1).trans rfl; have hcz21_2 : w20.cell? ⟨gb597, 2, none⟩ = some (.string a0_2) := (blk_cell BK597.out 2).trans rfl; have hfz21_0 := blk_frozen BK597.out 0; have hfz21_1 := blk_frozen BK597.out 1; have hfz21_2 := blk_frozen BK597.out 2))
     go_ret
     exact ⟨by first | rfl | (simp [errW_none, errW_some] <;> rfl) | (simp [*, errW_none, errW_some] <;> rfl), by repeat (first | (with_reducible first | exact HB.out | apply below_alloc | apply pw_below_drewN | apply below_drew1 | refine below_set ?_ GE597.out) | exact HB.out)⟩
    ·rw [if_neg c19] at H
     have c19b0 : (a1 == 2) = false := beq_eq_false_iff_ne.mpr c19
     have c19b1 : (a1 != 2) = true := bne_iff_ne.mpr c19
     obtain rfl := Option.some.inj H
     go_enter Tryz.func24, Tryz.ntmps24
     go_wp2_with (first | ((with_reducible refine gate_dst (N := 2) rfl ?_); refine box_event ?hg (N := 2) ?hd (cs := #[.int .i64 a0_0, .int .i64 a0_1, .string a0_2]) (t := 34) ?hr ?_; (case hd => rfl); (case hg => rfl); (case hr => first | (go_simp; done) | (go_simp; rfl)); intro gb597 hg w22 hbox hb; have n0_ := Aside0.mk (below_step (BU HB.out) hb); have n1_ := Aside0.mk (hbox); have n2_ := Aside0.mk ((by rw [hg]; exact (below_size (BU HB.out)) : w.heap.size ≤ gb597)); have n3_ := Aside0.mk ((by rw [hg]; exact (below_size (BU HB.out)) : w.heap.size ≤ gb597)); clear HB; have HB := n0_; have BK597 := n1_; have GW597 := n2_; have GE597 := n3_; clear n0_ n1_ n2_ n3_; clear hb hbox hg; have hcz23_0 : w22.cell? ⟨gb597, 0, none⟩ = some (.int .i64 a0_0) := (blk_cell BK597.out 0).trans rfl; have hcz23_1 : w22.cell? ⟨gb597, 1, none⟩ = some (.int .i64 a0_1) := (blk_cell BK597.out 1).trans rfl; have hcz23_2 : w22.cell? ⟨gb597, 2, none⟩ = some (.string a0_2) := (blk_cell BK597.out 2).trans rfl; have hfz23_0 := blk_frozen BK597.out 0; have hfz23_1 := blk_frozen BK597.out 1; have hfz23_2 := blk_frozen BK597.out 2))
     go_ret
     exact ⟨by first | rfl | (simp [errW_none, errW_some] <;> rfl) | (simp [*, errW_none, errW_some] <;> rfl), by repeat (first | (with_reducible first | exact HB.out | apply below_alloc | apply pw_below_drewN | apply below_drew1 | refine below_set ?_ GE597.out) | exact HB.out)⟩
  ·rw [if_neg c9] at H
   have c9b0 : (a0_0 == a1) = false := beq_eq_false_iff_ne.mpr c9
   have c9b1 : (a0_0 != a1) = true := bne_iff_ne.mpr c9
   obtain rfl := Option.some.inj H
   go_enter Tryz.func24, Tryz.ntmps24
   go_wp2_with (first | ((with_reducible refine gate_dst (N := 2) rfl ?_); refine box_event ?hg (N := 2) ?hd (cs := #[.int .i64 a0_0, .int .i64 a0_1, .string a0_2]) (t := 34) ?hr ?_; (case hd => rfl); (case hg => rfl); (case hr => first | (go_simp; done) | (go_simp; rfl)); intro gb597 hg w24 hbox hb; have n0_ := Aside0.mk (below_step (BU HB.out) hb); have n1_ := Aside0.mk (hbox); have n2_ := Aside0.mk ((by rw [hg]; exact (below_size (BU HB.out)) : w.heap.size ≤ gb597)); have n3_ := Aside0.mk ((by rw [hg]; exact (below_size (BU HB.out)) : w.heap.size ≤ gb597)); clear HB; have HB := n0_; have BK597 := n1_; have GW597 := n2_; have GE597 := n3_; clear n0_ n1_ n2_ n3_; clear hb hbox hg; have hcz25_0 : w24.cell? ⟨gb597, 0, none⟩ = some (.int .i64 a0_0) := (blk_cell BK597.out 0).trans rfl; have hcz25_1 : w24.cell? ⟨gb597, 1, none⟩ = some (.int .i64 a0_1) := (blk_cell BK597.out 1).trans rfl; have hcz25_2 : w24.cell? ⟨gb597, 2, none⟩ = some (.string a0_2) := (blk_cell BK597.out 2).trans rfl; have hfz25_0 := blk_frozen BK597.out 0; have hfz25_1 := blk_frozen BK597.out 1; have hfz25_2 := blk_frozen BK597.out 2))
   go_ret
   exact ⟨by first | rfl | (simp [errW_none, errW_some] <;> rfl) | (simp [*, errW_none, errW_some] <;> rfl), by repeat (first | (with_reducible first | exact HB.out | apply below_alloc | apply pw_below_drewN | apply below_drew1 | refine below_set ?_ GE597.out) | exact HB.out)⟩

/-! ### estreatref14_Check: function 16 -/
mutual
def estreatref14_Check.l0 : Nat → List (S34) → Int → Int → Option (Int)
 | 0, _, _, _ => none
 | k + 1, x0, x1, x5 => if x5 < (x0.length : Int) then (if 0 ≤ x5 then (if (((rd_T34 x0 x5).f2).size : Int) > 65536 then (some 12) else (estreatref14_Check.l0 k x0 x1 (wrap64 (x5 + 1)))) else (none)) else (estreatref14_Check.l1 k x0 x1 0)
def estreatref14_Check.l1 : Nat → List (S34) → Int → Int → Option (Int)
 | 0, _, _, _ => none
 | k + 1, x0, x1, x6 => if x6 < (x0.length : Int) then (if 0 ≤ x6 then ((estreatref14_Right.f ((rd_T34 x0 x6).f0) ((rd_T34 x0 x6).f1) ((rd_T34 x0 x6).f2) x1).bind fun t600 => (if t600 = true then (estreatref14_Check.l1 k x0 x1 (wrap64 (x6 + 1))) else (some 11))) else (none)) else (some 0)
end
def estreatref14_Check.f (k : Nat) (l0 : List (S34)) (a1 : Int) : Option (Int) := if (l0.length : Int) > 65536 then (some 12) else (estreatref14_Check.l0 k l0 a1 0)
set_option maxHeartbeats 8000000 in
set_option maxRecDepth 100000 in
theorem estreatref14_Check.calls (k : Nat) (A0 : Option Addr) (c0 : Nat) (l0 : List (S34)) (a1 : Int) (r : Int) (w : World) (hr0 : Kd.C k34 w A0 l0.length l0) (hc0 : l0.length ≤ c0) (h : estreatref14_Check.f k l0 a1 = some r) :
  Calls Tryz.prog 16 #[.slice A0 l0.length c0, .int .i64 a1] w fun e w' => e = .returned (.int .i64 r) ∧ Below w.heap.size w w' := by
 have hu34 := Tryz.underlying34
 have HR0 := Aside0.mk hr0
 have HC0 := Aside0.mk hc0
 clear hr0 hc0
 have HB := Aside0.mk (Below.refl w.heap.size w)
 have H : (if (l0.length : Int) > 65536 then (some 12) else (estreatref14_Check.l0 k l0 a1 0)) = some r := h
 clear h
 by_cases c3 : (l0.length : Int) > 65536
 ·rw [if_pos c3] at H
  have c3b0 : decide (65536 < (l0.length : Int)) = true := decide_eq_true c3
  have c3b1 : decide (65536 < l0.length) = true := decide_eq_true (by omega)
  clear c3
  obtain rfl := Option.some.inj H
  go_enter Tryz.func16, Tryz.ntmps16
  go_wp2
  go_ret
  exact ⟨by first | rfl | (simp [errW_none, errW_some] <;> rfl) | (simp [*, errW_none, errW_some] <;> rfl), BU HB.out⟩
 ·rw [if_neg c3] at H
  have c3b0 : decide (65536 < (l0.length : Int)) = false := decide_eq_false c3
  have c3b1 : decide (65536 < l0.length) = false := decide_eq_false (by omega)
  clear c3
  have H' := Aside0.mk H
  clear H
  go_enter Tryz.func16, Tryz.ntmps16
  go_wp2
  go_loopg [5] k (fun kq v5 w' => ∃ (x5_1 : Int), v5 = .int .i64 x5_1 ∧ Aside0 (estreatref14_Check.l0 kq l0 a1 x5_1 = some r) ∧ Aside0 (kq ≤ k) ∧ Aside0 (Below w.heap.size w w'))
  case atStart => exact ⟨(0), EB, H', ⟨Nat.le_refl _⟩, ⟨BU HB.out⟩⟩
  case round =>
   clear H'
   try clear c1
   try clear p2
   try clear c3
   try clear c3b0
   try clear c3b1
   obtain ⟨x5_1, rfl, HA, HK1, HB⟩ := hrel
   cases gk with
   | zero => exact absurd HA.out (by simp [estreatref14_Check.l0])
   | succ k1 =>
    have H := HA.out
    clear HA
    simp only [estreatref14_Check.l0] at H
    by_cases c4 : x5_1 < (l0.length : Int)
    ·rw [if_pos c4] at H
     have c4b0 : decide (x5_1 < (l0.length : Int)) = true := decide_eq_true c4
     clear c4
     by_cases c5 : 0 ≤ x5_1
     ·rw [if_pos c5] at H
      have c5b0 : decide (0 ≤ x5_1) = true := decide_eq_true c5
      clear c5
      by_cases c6 : (((rd_T34 l0 x5_1).f2).size : Int) > 65536
      ·rw [if_pos c6] at H
       have c6b0 : decide (65536 < (((rd_T34 l0 x5_1).f2).size : Int)) = true := decide_eq_true c6
       have c6b1 : decide (65536 < ((rd_T34 l0 x5_1).f2).size) = true := decide_eq_true (by omega)
       clear c6
       obtain rfl := Option.some.inj H
       have p598 : 0 ≤ (x5_1 : Int) := OD
       have q598 : x5_1 < (l0.length : Int) := OD
       obtain ⟨ad598, e598, hx598_0, hx598_1, hx598_2⟩ := at_T34 HR0.out x5_1 p598 q598
       cases e598
       replace hx598_0 := (HB.out.cell (World.block_lt_of_cell? w _ hx598_0)).trans hx598_0
       replace hx598_1 := (HB.out.cell (World.block_lt_of_cell? w _ hx598_1)).trans hx598_1
       replace hx598_2 := (HB.out.cell (World.block_lt_of_cell? w _ hx598_2)).trans hx598_2
       replace p598 := eq_true p598
       replace q598 := eq_true q598
       go_wp2
       go_ret
       exact ⟨by first | rfl | (simp [errW_none, errW_some] <;> rfl) | (simp [*, errW_none, errW_some] <;> rfl), BU HB.out⟩
      ·rw [if_neg c6] at H
       have c6b0 : decide (65536 < (((rd_T34 l0 x5_1).f2).size : Int)) = false := decide_eq_false c6
       have c6b1 : decide (65536 < ((rd_T34 l0 x5_1).f2).size) = false := decide_eq_false (by omega)
       clear c6
       have H' := Aside0.mk H
       clear H
       have p598 : 0 ≤ (x5_1 : Int) := OD
       have q598 : x5_1 < (l0.length : Int) := OD
       obtain ⟨ad598, e598, hx598_0, hx598_1, hx598_2⟩ := at_T34 HR0.out x5_1 p598 q598
       cases e598
       replace hx598_0 := (HB.out.cell (World.block_lt_of_cell? w _ hx598_0)).trans hx598_0
       replace hx598_1 := (HB.out.cell (World.block_lt_of_cell? w _ hx598_1)).trans hx598_1
       replace hx598_2 := (HB.out.cell (World.block_lt_of_cell? w _ hx598_2)).trans hx598_2
       replace p598 := eq_true p598
       replace q598 := eq_true q598
       go_wp2
       go_roundg k1
       case measure => have := HK1.out; omega
       case rel => exact ⟨(wrap64 (x5_1 + 1)), EB, H', ⟨by have := HK1.out; omega⟩, ⟨BU HB.out⟩⟩
     ·rw [if_neg c5] at H
      exact absurd H (by simp)
    ·rw [if_neg c4] at H
     have c4b0 : decide (x5_1 < (l0.length : Int)) = false := decide_eq_false c4
     clear c4
     have H' := Aside0.mk H
     clear H
     go_wp2
     go_loopg [6] k1 (fun kq v6 w' => ∃ (x6_2 : Int), v6 = .int .i64 x6_2 ∧ Aside0 (estreatref14_Check.l1 kq l0 a1 x6_2 = some r) ∧ Aside0 (kq ≤ k1) ∧ Aside0 (Below w.heap.size w w'))
     case atStart => exact ⟨(0), EB, H', ⟨Nat.le_refl _⟩, ⟨BU HB.out⟩⟩
     case round =>
      clear H'
      try clear c1
      try clear p2
      try clear c3
      try clear c3b0
      try clear c3b1
      try clear c4
      try clear c4b0
      try clear c5
      try clear c5b0
      try clear p5
      try clear q5
      try clear hx5
      try clear c6
      try clear c6b0
      try clear c6b1
      try clear p6
      try clear hx598_0
      try clear hx598_1
      try clear hx598_2
      try clear p2
      try clear p598
      try clear q598
      obtain ⟨x6_2, rfl, HA, HK2, HB⟩ := hrel
      cases gk with
      | zero => exact absurd HA.out (by simp [estreatref14_Check.l1])
      | succ k2 =>
       have H := HA.out
       clear HA
       simp only [estreatref14_Check.l1] at H
       by_cases c7 : x6_2 < (l0.length : Int)
       ·rw [if_pos c7] at H
        have c7b0 : decide (x6_2 < (l0.length : Int)) = true := decide_eq_true c7
        clear c7
        by_cases c8 : 0 ≤ x6_2
        ·rw [if_pos c8] at H
         have c8b0 : decide (0 ≤ x6_2) = true := decide_eq_true c8
         clear c8
         replace H := Option.bind_eq_some_iff.mp H
         obtain ⟨t600, A90, H⟩ := H
         replace H : (if t600 = true then (estreatref14_Check.l1 k2 l0 a1 (wrap64 (x6_2 + 1))) else (some 11)) = some r := H
         have A9 := Aside0.mk A90
         clear A90
         by_cases c10 : t600 = true
         ·subst c10
          have H1 : (estreatref14_Check.l1 k2 l0 a1 (wrap64 (x6_2 + 1))) = some r := by rw [if_pos rfl] at H; exact H
          clear H
          have H := H1
          clear H1
          have H' := Aside0.mk H
          clear H
          have p599 : 0 ≤ (x6_2 : Int) := OD
          have q599 : x6_2 < (l0.length : Int) := OD
          obtain ⟨ad599, e599, hx599_0, hx599_1, hx599_2⟩ := at_T34 HR0.out x6_2 p599 q599
          cases e599
          replace hx599_0 := (HB.out.cell (World.block_lt_of_cell? w _ hx599_0)).trans hx599_0
          replace hx599_1 := (HB.out.cell (World.block_lt_of_cell? w _ hx599_1)).trans hx599_1
          replace hx599_2 := (HB.out.cell (World.block_lt_of_cell? w _ hx599_2)).trans hx599_2
          replace p599 := eq_true p599
          replace q599 := eq_true q599
          go_wp2_with (first | ((with_reducible refine gate_callee (f := 24) rfl ?_); refine goesL_ (some 34) rfl rfl Tryz.func24 (by kernel_rfl) rfl #[.agg #[.int .i64 ((rd_T34 l0 x6_2).f0), .int .i64 ((rd_T34 l0 x6_2).f1), .string ((rd_T34 l0 x6_2).f2)], .int .i64 a1] rfl EA ?_; (with_reducible refine (estreatref14_Right.calls ((rd_T34 l0 x6_2).f0) ((rd_T34 l0 x6_2).f1) ((rd_T34 l0 x6_2).f2) a1 true _ A9.out).mono ?_); rintro e w11 ⟨rfl, hb⟩; refine ⟨_, rfl, ?_⟩; have n0_ := Aside0.mk (below_step (BU HB.out) hb); clear HB; have HB := n0_; clear n0_; (try clear hb); (try clear hb2); (try clear hk); (try clear hi)))
          go_roundg k2
          case measure => have := HK1.out; have := HK2.out; omega
          case rel => exact ⟨(wrap64 (x6_2 + 1)), EB, H', ⟨by have := HK1.out; have := HK2.out; omega⟩, ⟨BU HB.out⟩⟩
         ·replace c10 := Bool.eq_false_iff.mpr c10
          subst c10
          have H1 : (some 11) = some r := by rw [if_neg (show ¬ (false = true) by decide)] at H; exact H
          clear H
          have H := H1
          clear H1
          obtain rfl := Option.some.inj H
          have p599 : 0 ≤ (x6_2 : Int) := OD
          have q599 : x6_2 < (l0.length : Int) := OD
          obtain ⟨ad599, e599, hx599_0, hx599_1, hx599_2⟩ := at_T34 HR0.out x6_2 p599 q599
          cases e599
          replace hx599_0 := (HB.out.cell (World.block_lt_of_cell? w _ hx599_0)).trans hx599_0
          replace hx599_1 := (HB.out.cell (World.block_lt_of_cell? w _ hx599_1)).trans hx599_1
          replace hx599_2 := (HB.out.cell (World.block_lt_of_cell? w _ hx599_2)).trans hx599_2
          replace p599 := eq_true p599
          replace q599 := eq_true q599
          go_wp2_with (first | ((with_reducible refine gate_callee (f := 24) rfl ?_); refine goesL_ (some 34) rfl rfl Tryz.func24 (by kernel_rfl) rfl #[.agg #[.int .i64 ((rd_T34 l0 x6_2).f0), .int .i64 ((rd_T34 l0 x6_2).f1), .string ((rd_T34 l0 x6_2).f2)], .int .i64 a1] rfl EA ?_; (with_reducible refine (estreatref14_Right.calls ((rd_T34 l0 x6_2).f0) ((rd_T34 l0 x6_2).f1) ((rd_T34 l0 x6_2).f2) a1 false _ A9.out).mono ?_); rintro e w12 ⟨rfl, hb⟩; refine ⟨_, rfl, ?_⟩; have n0_ := Aside0.mk (below_step (BU HB.out) hb); clear HB; have HB := n0_; clear n0_; (try clear hb); (try clear hb2); (try clear hk); (try clear hi)))
          go_ret
          exact ⟨by first | rfl | (simp [errW_none, errW_some] <;> rfl) | (simp [*, errW_none, errW_some] <;> rfl), BU HB.out⟩
        ·rw [if_neg c8] at H
         exact absurd H (by simp)
       ·rw [if_neg c7] at H
        have c7b0 : decide (x6_2 < (l0.length : Int)) = false := decide_eq_false c7
        clear c7
        obtain rfl := Option.some.inj H
        go_wp2
        go_ret
        exact ⟨by first | rfl | (simp [errW_none, errW_some] <;> rfl) | (simp [*, errW_none, errW_some] <;> rfl), BU HB.out⟩

/-! ### estreatref07_Bytes: function 25 -/
mutual
def estreatref07_Bytes.l0 : Nat → List Bool → List Int → Int → Option (List Int)
 | 0, _, _, _ => none
 | k + 1, x0, x3, x4 => if x4 < (x0.length : Int) then (estreatref07_Bytes.l1 k x0 x3 x4 0 1 x4) else (some x3)
def estreatref07_Bytes.l1 : Nat → List Bool → List Int → Int → Int → Int → Int → Option (List Int)
 | 0, _, _, _, _, _, _ => none
 | k + 1, x0, x3, x4, x5, x6, x7 => if x7 < (wrap64 (x4 + 8)) then (estreatref07_Bytes.j2 k x0 x3 x4 x5 x6 x7 (decide (x7 < (x0.length : Int)))) else (estreatref07_Bytes.j2 k x0 x3 x4 x5 x6 x7 false)
def estreatref07_Bytes.j2 : Nat → List Bool → List Int → Int → Int → Int → Int → Bool → Option (List Int)
 | 0, _, _, _, _, _, _, _ => none
 | k + 1, x0, x3, x4, x5, x6, x7, x24 => if x24 = true then (if 0 ≤ x7 then (if x7 < (x0.length : Int) then (if rdOf false x0 x7 = true then (estreatref07_Bytes.l1 k x0 x3 x4 (wrap64 (x5 + x6)) (wrap64 (2 * x6)) (wrap64 (x7 + 1))) else (estreatref07_Bytes.l1 k x0 x3 x4 x5 (wrap64 (2 * x6)) (wrap64 (x7 + 1)))) else (none)) else (none)) else (if x3.length < 140737488355328 then (estreatref07_Bytes.l0 k x0 (x3 ++ [(x5) % 256]) (wrap64 (x4 + 8))) else (none))
end
def estreatref07_Bytes.f (k : Nat) (l0 : List Bool) : Option (List Int) := estreatref07_Bytes.l0 k l0 ([] : List Int) 0
set_option maxHeartbeats 8000000 in
set_option maxRecDepth 100000 in
theorem estreatref07_Bytes.calls (k : Nat) (A0 : Option Addr) (c0 : Nat) (l0 : List Bool) (r : List Int) (w : World) (hr0 : Kd.C Kd.bool w A0 l0.length l0) (hc0 : l0.length ≤ c0) (h : estreatref07_Bytes.f k l0 = some r) :
  Calls Tryz.prog 25 #[.slice A0 l0.length c0] w fun e w' => ∃ v0_ : Value, e = .returned (v0_) ∧ Kd.R (Kd.int .u8) 5 w' w.heap.size (fun _ => True) v0_ r ∧ Below w.heap.size w w' := by
 have HR0 := Aside0.mk hr0
 have HC0 := Aside0.mk hc0
 clear hr0 hc0
 have HB := Aside0.mk (Below.refl w.heap.size w)
 have H : (estreatref07_Bytes.l0 k l0 ([] : List Int) 0) = some r := h
 clear h
 have H' := Aside0.mk H
 clear H
 go_enter Tryz.func25, Tryz.ntmps25
 go_wp2
 go_loopg [3, 4] k (fun kq v3 v4 w' => ∃ (x3_1 : List Int) (x4_1 : Int), v4 = .int .i64 x4_1 ∧ Aside0 (estreatref07_Bytes.l0 kq l0 x3_1 x4_1 = some r) ∧ Aside0 (kq ≤ k) ∧ Aside0 (Kd.R (Kd.int .u8) 5 w' w.heap.size (fun _ => True) v3 x3_1) ∧ Aside0 (Below w.heap.size w w'))
 case atStart => exact ⟨(([] : List Int)), (0), EB, H', ⟨Nat.le_refl _⟩, ⟨by first | exact Kd.R_nil _ _ _ _ _ | exact Kd.N_nil _ _ _ _ _ | exact Kd.V_nil _ _ _ _ _ | exact Kd.Q_nil _ _ _ _ _ | exact Kd.S_nil _ _ _ _ _⟩, ⟨BU HB.out⟩⟩
 case round =>
  clear H'
  obtain ⟨x3_1, x4_1, rfl, HA, HK1, HO_3, HB⟩ := hrel
  cases gk with
  | zero => exact absurd HA.out (by simp [estreatref07_Bytes.l0])
  | succ k1 =>
   have H := HA.out
   clear HA
   simp only [estreatref07_Bytes.l0] at H
   by_cases c2 : x4_1 < (l0.length : Int)
   ·rw [if_pos c2] at H
    have c2b0 : decide (x4_1 < (l0.length : Int)) = true := decide_eq_true c2
    clear c2
    have H' := Aside0.mk H
    clear H
    go_wp2
    go_loopg [5, 6, 7] k1 (fun kq v5 v6 v7 w' => ∃ (x5_2 : Int) (x6_2 : Int) (x7_2 : Int), v5 = .int .i64 x5_2 ∧ v6 = .int .i64 x6_2 ∧ v7 = .int .i64 x7_2 ∧ Aside0 (estreatref07_Bytes.l1 kq l0 x3_1 x4_1 x5_2 x6_2 x7_2 = some r) ∧ Aside0 (kq ≤ k1) ∧ Aside0 (Kd.R (Kd.int .u8) 5 w' w.heap.size (fun _ => True) u3 x3_1) ∧ Aside0 (Below w.heap.size w w'))
    case atStart => exact ⟨(0), (1), (x4_1), EB, EB, EB, H', ⟨Nat.le_refl _⟩, ⟨RU HO_3.out⟩, ⟨BU HB.out⟩⟩
    case round =>
     clear H'
     try clear c2
     try clear c2b0
     try clear p2
     obtain ⟨x5_2, x6_2, x7_2, rfl, rfl, rfl, HA, HK2, HO_3, HB⟩ := hrel
     cases gk with
     | zero => exact absurd HA.out (by simp [estreatref07_Bytes.l1])
     | succ k2 =>
      have H := HA.out
      clear HA
      simp only [estreatref07_Bytes.l1] at H
      have HC3 := Aside0.mk H
      clear H
      go_upto_region 7 with (fail)
      go_cut [24] (fun v24 wc => ∃ (kq : Nat) (x24_2 : Bool), v24 = .bool x24_2 ∧ Aside0 (estreatref07_Bytes.j2 kq l0 x3_1 x4_1 x5_2 x6_2 x7_2 x24_2 = some r) ∧ Aside0 (kq ≤ k2) ∧ Aside0 (Kd.R (Kd.int .u8) 5 wc w.heap.size (fun _ => True) u3 x3_1) ∧ Aside0 (Below w.heap.size w wc))
      case first =>
       have H := HC3.out
       clear HC3
       by_cases c4 : x7_2 < (wrap64 (x4_1 + 8))
       ·rw [if_pos c4] at H
        have c4b0 : decide (x7_2 < (wrap64 (x4_1 + 8))) = true := decide_eq_true c4
        clear c4
        (first | rw [c4b0] | (simp only [i64_w, i32_w]; rw [c4b0]) | skip)
        have H' := Aside0.mk H
        clear H
        go_wp2
        go_meet
        case rel => exact ⟨_, (decide (x7_2 < (l0.length : Int))), EB, H', ⟨by have := HK1.out; have := HK2.out; first | omega | exact Nat.le_refl _⟩, ⟨RU HO_3.out⟩, ⟨BU HB.out⟩⟩
       ·rw [if_neg c4] at H
        have c4b0 : decide (x7_2 < (wrap64 (x4_1 + 8))) = false := decide_eq_false c4
        clear c4
        (first | rw [c4b0] | (simp only [i64_w, i32_w]; rw [c4b0]) | skip)
        have H' := Aside0.mk H
        clear H
        go_wp2
        go_meet
        case rel => exact ⟨_, (false), EB, H', ⟨by have := HK1.out; have := HK2.out; first | omega | exact Nat.le_refl _⟩, ⟨RU HO_3.out⟩, ⟨BU HB.out⟩⟩
      case rest =>
       clear HC3
       try clear c2
       try clear c2b0
       try clear p2
       try clear c4
       try clear c4b0
       try clear p2
       obtain ⟨kq, x24_2, rfl, HA, HJ2, HO_3, HB⟩ := hcut
       cases kq with
       | zero => exact absurd HA.out (by simp [estreatref07_Bytes.j2])
       | succ kj2 =>
        have H := HA.out
        clear HA
        simp only [estreatref07_Bytes.j2] at H
        by_cases c5 : x24_2 = true
        ·subst c5
         have H1 : (if 0 ≤ x7_2 then (if x7_2 < (l0.length : Int) then (if rdOf false l0 x7_2 = true then (estreatref07_Bytes.l1 kj2 l0 x3_1 x4_1 (wrap64 (x5_2 + x6_2)) (wrap64 (2 * x6_2)) (wrap64 (x7_2 + 1))) else (estreatref07_Bytes.l1 kj2 l0 x3_1 x4_1 x5_2 (wrap64 (2 * x6_2)) (wrap64 (x7_2 + 1)))) else (none)) else (none)) = some r := by rw [if_pos rfl] at H; exact H
         clear H
         have H := H1
         clear H1
         by_cases c6 : 0 ≤ x7_2
         ·rw [if_pos c6] at H
          have c6b0 : decide (0 ≤ x7_2) = true := decide_eq_true c6
          clear c6
          by_cases c7 : x7_2 < (l0.length : Int)
          ·rw [if_pos c7] at H
           have c7b0 : decide (x7_2 < (l0.length : Int)) = true := decide_eq_true c7
           clear c7
           obtain ⟨bq8, hbq8⟩ : ∃ b_ : Bool, b_ = (rdOf false l0 x7_2) := ⟨_, rfl⟩
           replace H : (if bq8 = true then (estreatref07_Bytes.l1 kj2 l0 x3_1 x4_1 (wrap64 (x5_2 + x6_2)) (wrap64 (2 * x6_2)) (wrap64 (x7_2 + 1))) else (estreatref07_Bytes.l1 kj2 l0 x3_1 x4_1 x5_2 (wrap64 (2 * x6_2)) (wrap64 (x7_2 + 1)))) = some r := by rw [← hbq8] at H; exact H
           have Nbq8 := Aside0.mk hbq8
           clear hbq8
           by_cases c9 : bq8 = true
           ·subst c9
            have H1 : (estreatref07_Bytes.l1 kj2 l0 x3_1 x4_1 (wrap64 (x5_2 + x6_2)) (wrap64 (2 * x6_2)) (wrap64 (x7_2 + 1))) = some r := by rw [if_pos rfl] at H; exact H
            clear H
            have H := H1
            clear H1
            have H' := Aside0.mk H
            clear H
            have p601 : 0 ≤ (x7_2 : Int) := OD
            have q601 : x7_2 < (l0.length : Int) := OD
            obtain ⟨ad601, e601, hx601_0⟩ := Kd.at_bool HR0.out x7_2 p601 q601
            (try rw [← Nbq8.out] at hx601_0)
            cases e601
            replace hx601_0 := (HB.out.cell (World.block_lt_of_cell? w _ hx601_0)).trans hx601_0
            replace p601 := eq_true p601
            replace q601 := eq_true q601
            go_wp2
            go_roundg kj2
            case measure => have := HK1.out; have := HK2.out; have := HJ2.out; omega
            case rel => exact ⟨(wrap64 (x5_2 + x6_2)), (wrap64 (2 * x6_2)), (wrap64 (x7_2 + 1)), EB, EB, EB, H', ⟨by have := HK1.out; have := HK2.out; have := HJ2.out; omega⟩, ⟨RU HO_3.out⟩, ⟨BU HB.out⟩⟩
           ·replace c9 := Bool.eq_false_iff.mpr c9
            subst c9
            have H1 : (estreatref07_Bytes.l1 kj2 l0 x3_1 x4_1 x5_2 (wrap64 (2 * x6_2)) (wrap64 (x7_2 + 1))) = some r := by rw [if_neg (show ¬ (false = true) by decide)] at H; exact H
            clear H
            have H := H1
            clear H1
            have H' := Aside0.mk H
            clear H
            have p601 : 0 ≤ (x7_2 : Int) := OD
            have q601 : x7_2 < (l0.length : Int) := OD
            obtain ⟨ad601, e601, hx601_0⟩ := Kd.at_bool HR0.out x7_2 p601 q601
            (try rw [← Nbq8.out] at hx601_0)
            cases e601
            replace hx601_0 := (HB.out.cell (World.block_lt_of_cell? w _ hx601_0)).trans hx601_0
            replace p601 := eq_true p601
            replace q601 := eq_true q601
            go_wp2
            go_roundg kj2
            case measure => have := HK1.out; have := HK2.out; have := HJ2.out; omega
            case rel => exact ⟨(x5_2), (wrap64 (2 * x6_2)), (wrap64 (x7_2 + 1)), EB, EB, EB, H', ⟨by have := HK1.out; have := HK2.out; have := HJ2.out; omega⟩, ⟨RU HO_3.out⟩, ⟨BU HB.out⟩⟩
          ·rw [if_neg c7] at H
           exact absurd H (by simp)
         ·rw [if_neg c6] at H
          exact absurd H (by simp)
        ·replace c5 := Bool.eq_false_iff.mpr c5
         subst c5
         have H1 : (if x3_1.length < 140737488355328 then (estreatref07_Bytes.l0 kj2 l0 (x3_1 ++ [(x5_2) % 256]) (wrap64 (x4_1 + 8))) else (none)) = some r := by rw [if_neg (show ¬ (false = true) by decide)] at H; exact H
         clear H
         have H := H1
         clear H1
         by_cases c10 : x3_1.length < 140737488355328
         ·rw [if_pos c10] at H
          have LMc10 := Aside0.mk c10
          clear c10
          obtain ⟨y602, hy602⟩ : ∃ y_ : List Int, y_ = (x3_1 ++ [(x5_2) % 256]) := ⟨_, rfl⟩
          replace H : (estreatref07_Bytes.l0 kj2 l0 y602 (wrap64 (x4_1 + 8))) = some r := by first | (rw [hy602]; with_reducible exact H) | (have H2_ := (Option.bind_some _ _).symm.trans H; rw [hy602]; with_reducible exact H2_) | (have H2_ := (Option.bind_some _ _).symm.trans H; with_reducible exact H2_) | with_reducible exact H | (rw [hy602]; exact H) | exact H
          have Ny602 := Aside0.mk hy602
          clear hy602
          have H' := Aside0.mk H
          clear H
          go_wp2_with (first | ((with_reducible refine gate_builtin (b := .append) (xs := #[.tmp 36, .tmp 39]) rfl ?_); (try (refine gate_guard (by rfl) ?_; dsimp only)); at_builtin; refine Kd.R_append (Kd.int .u8) (w0 := w) w.heap.size rfl (.tmp 36) (.tmp 39) 25 5 (.int .u8 0) 1 rfl Tryz.underlying25 info5 rfl (by decide) (by omega) u3 x3_1 ((x5_2) % 256) [.int .u8 ((x5_2) % 256)] (fun _ => True) (fun _ => False) rfl rfl ?aP (fun _ hk => hk.elim) ?aF ?aO ?aB ?aS ?aL ?_; (case aP => exact rfl); (case aB => exact (BU HB.out)); (case aF => exact (fun _ _ => trivial)); (case aO => exact (RU HO_3.out)); (case aS => exact (below_size (BU HB.out))); (case aL => have := LMc10.out; omega); intro v603 w11 ho hb hg hat; rw [← Ny602.out] at ho; have n0_ := Aside0.mk (hb); have n1_ := Aside0.mk (ho); clear HB HO_3; have HB := n0_; have HO604 := n1_; clear n0_ n1_; clear ho hb hg hat))
          go_roundg kj2
          case measure => have := HK1.out; have := HK2.out; have := HJ2.out; omega
          case rel => exact ⟨(y602), (wrap64 (x4_1 + 8)), EB, H', ⟨by have := HK1.out; have := HK2.out; have := HJ2.out; omega⟩, ⟨RU HO604.out⟩, ⟨BU HB.out⟩⟩
         ·rw [if_neg c10] at H
          exact absurd H (by simp)
   ·rw [if_neg c2] at H
    have c2b0 : decide (x4_1 < (l0.length : Int)) = false := decide_eq_false c2
    clear c2
    obtain rfl := Option.some.inj H
    go_wp2
    go_ret
    exact ⟨_, by first | rfl | (simp [errW_none, errW_some] <;> rfl) | (simp [*, errW_none, errW_some] <;> rfl), RU HO_3.out, BU HB.out⟩

/-! ### estreatref01_Var: function 54 -/
def estreatref01_Var.f : Nat → Int → Option (List Int)
 | 0, _ => none
 | k + 1, a0 => if a0 < 128 then (some (([(a0) % 256] : List Int))) else ((some (([(IntKind.u64.wrap (128 + (Int.tmod a0 128))) % 256] : List Int) : List Int)).bind fun y608 => ((estreatref01_Var.f k (IntKind.u64.wrap (Int.tdiv a0 128))).bind fun t611 => (if y608.length + t611.length < 140737488355328 then (some (y608 ++ t611)) else (none))))
set_option maxHeartbeats 8000000 in
set_option maxRecDepth 100000 in
theorem estreatref01_Var.calls (k : Nat) : ∀ (a0 : Int) (r : List Int) (w : World) (h : estreatref01_Var.f k a0 = some r),
  Calls Tryz.prog 54 #[.int .u64 a0] w fun e w' => ∃ v0_ : Value, e = .returned (v0_) ∧ Kd.R (Kd.int .u8) 5 w' w.heap.size (fun _ => True) v0_ r ∧ Below w.heap.size w w' := by
 induction k using Nat.strongRecOn with
 | _ k ih =>
 intro a0 r w h
 cases k with
 | zero => exact absurd h (by simp [estreatref01_Var.f])
 | succ k =>
 simp only [estreatref01_Var.f] at h
 have HB := Aside0.mk (Below.refl w.heap.size w)
 have H : (if a0 < 128 then (some (([(a0) % 256] : List Int))) else ((some (([(IntKind.u64.wrap (128 + (Int.tmod a0 128))) % 256] : List Int) : List Int)).bind fun y608 => ((estreatref01_Var.f k (IntKind.u64.wrap (Int.tdiv a0 128))).bind fun t611 => (if y608.length + t611.length < 140737488355328 then (some (y608 ++ t611)) else (none))))) = some r := h
 clear h
 by_cases c2 : a0 < 128
 ·rw [if_pos c2] at H
  have c2b0 : decide (a0 < 128) = true := decide_eq_true c2
  clear c2
  obtain ⟨y605, hy605⟩ : ∃ y_ : List Int, y_ = (([(a0) % 256] : List Int)) := ⟨_, rfl⟩
  replace H : (some y605) = some r := by first | (rw [hy605]; with_reducible exact H) | (have H2_ := (Option.bind_some _ _).symm.trans H; rw [hy605]; with_reducible exact H2_) | (have H2_ := (Option.bind_some _ _).symm.trans H; with_reducible exact H2_) | with_reducible exact H | (rw [hy605]; exact H) | exact H
  have Ny605 := Aside0.mk hy605
  clear hy605
  obtain rfl := Option.some.inj H
  go_enter Tryz.func54, Tryz.ntmps54
  go_wp2_with (first | ((with_reducible refine gate_dst (N := 7) rfl ?_); refine Kd.R_lit (Kd.int .u8) _ 5 ?hg (N := 7) ?hd (xs := ([(a0) % 256] : List Int)) (inner := [.int .u8 ((a0) % 256)]) (ok := fun _ => True) (okp := fun _ => True) ?hr ?hp (fun _ hk => hk) trivial (Below.refl _ _) (Nat.le_refl _) (by simp) ?_; (case hd => rfl); (case hg => rfl); (case hr => first | (go_simp; done) | (go_simp; rfl)); (case hp => exact (Reps.one (show Kd.M (Kd.int .u8) _ _ _ ((a0) % 256) [.int .u8 ((a0) % 256)] from rfl) (Reps.none _ _))); intro v606 w3 ho4 hb hg_ hnew_; clear hg_ hnew_; (first | rw [← Ny605.out] at ho4 | (simp only [Int.reduceToNat] at ho4; rw [← Ny605.out] at ho4)); have n0_ := Aside0.mk (Kd.R_lower ho4 (below_size (BU HB.out))); have n1_ := Aside0.mk (below_step (BU HB.out) hb); clear HB; have HO607 := n0_; have HB := n1_; clear n0_ n1_; clear hb ho4))
  go_ret
  exact ⟨_, by first | rfl | (simp [errW_none, errW_some] <;> rfl) | (simp [*, errW_none, errW_some] <;> rfl), RU HO607.out, BU HB.out⟩
 ·rw [if_neg c2] at H
  have c2b0 : decide (a0 < 128) = false := decide_eq_false c2
  clear c2
  obtain ⟨y608, hy608⟩ : ∃ y_ : List Int, y_ = (([(IntKind.u64.wrap (128 + (Int.tmod a0 128))) % 256] : List Int)) := ⟨_, rfl⟩
  replace H : ((estreatref01_Var.f k (IntKind.u64.wrap (Int.tdiv a0 128))).bind fun t611 => (if y608.length + t611.length < 140737488355328 then (some (y608 ++ t611)) else (none))) = some r := by first | (rw [hy608]; with_reducible exact H) | (have H2_ := (Option.bind_some _ _).symm.trans H; rw [hy608]; with_reducible exact H2_) | (have H2_ := (Option.bind_some _ _).symm.trans H; with_reducible exact H2_) | with_reducible exact H | (rw [hy608]; exact H) | exact H
  have Ny608 := Aside0.mk hy608
  clear hy608
  replace H := Option.bind_eq_some_iff.mp H
  obtain ⟨t611, A50, H⟩ := H
  replace H : (if y608.length + t611.length < 140737488355328 then (some (y608 ++ t611)) else (none)) = some r := H
  have A5 := Aside0.mk A50
  clear A50
  by_cases c6 : y608.length + t611.length < 140737488355328
  ·rw [if_pos c6] at H
   have LMc6 := Aside0.mk c6
   clear c6
   obtain ⟨y614, hy614⟩ : ∃ y_ : List Int, y_ = (y608 ++ t611) := ⟨_, rfl⟩
   replace H : (some y614) = some r := by first | (rw [hy614]; with_reducible exact H) | (have H2_ := (Option.bind_some _ _).symm.trans H; rw [hy614]; with_reducible exact H2_) | (have H2_ := (Option.bind_some _ _).symm.trans H; with_reducible exact H2_) | with_reducible exact H | (rw [hy614]; exact H) | exact H
   have Ny614 := Aside0.mk hy614
   clear hy614
   obtain rfl := Option.some.inj H
   go_enter Tryz.func54, Tryz.ntmps54
   go_wp2_with (first | ((with_reducible refine gate_dst (N := 12) rfl ?_); refine Kd.R_lit (Kd.int .u8) _ 5 ?hg (N := 12) ?hd (xs := ([(IntKind.u64.wrap (128 + (Int.tmod a0 128))) % 256] : List Int)) (inner := [.int .u8 ((IntKind.u64.wrap (128 + (Int.tmod a0 128))) % 256)]) (ok := fun _ => True) (okp := fun _ => True) ?hr ?hp (fun _ hk => hk) trivial (Below.refl _ _) (Nat.le_refl _) (by simp) ?_; (case hd => rfl); (case hg => rfl); (case hr => first | (go_simp; done) | (go_simp; rfl)); (case hp => exact (Reps.one (show Kd.M (Kd.int .u8) _ _ _ ((IntKind.u64.wrap (128 + (Int.tmod a0 128))) % 256) [.int .u8 ((IntKind.u64.wrap (128 + (Int.tmod a0 128))) % 256)] from rfl) (Reps.none _ _))); intro v609 w7 ho8 hb hg_ hnew_; clear hg_ hnew_; (first | rw [← Ny608.out] at ho8 | (simp only [Int.reduceToNat] at ho8; rw [← Ny608.out] at ho8)); have n0_ := Aside0.mk (Kd.R_lower ho8 (below_size (BU HB.out))); have n1_ := Aside0.mk (below_step (BU HB.out) hb); clear HB; have HO610 := n0_; have HB := n1_; clear n0_ n1_; clear hb ho8) | ((with_reducible refine gate_callee (f := 54) rfl ?_); refine goesL_ (some 15) rfl rfl Tryz.func54 (by kernel_rfl) rfl #[.int .u64 (IntKind.u64.wrap (Int.tdiv a0 128))] rfl EA ?_; (with_reducible refine (ih k (by omega) (IntKind.u64.wrap (Int.tdiv a0 128)) t611 _ A5.out).mono ?_); rintro e w9 ⟨v612, rfl, ho0, hb⟩; refine ⟨_, rfl, ?_⟩; have n0_ := Aside0.mk (Kd.R_elder' (RU HO610.out) (Kd.R_base ho0) hb); have n1_ := Aside0.mk (Kd.R_lower (Kd.R_new' ho0 (Kd.R_lt (RU HO610.out))) (below_size (BU HB.out))); have n2_ := Aside0.mk (below_step (BU HB.out) hb); clear HO610 HB; have HO610 := n0_; have HO613 := n1_; have HB := n2_; clear n0_ n1_ n2_; (try clear hb); (try clear hb2); (try clear hk); (try clear hi); (try clear ho0); obtain ⟨Ao11, co11, eo11⟩ := Kd.R_slice HO613.out; subst eo11) | ((with_reducible refine gate_builtin (b := .append) (xs := #[.tmp 12, .tmp 15]) rfl ?_); at_builtin; refine Kd.R_append_rows (Kd.int .u8) (w0 := w) w.heap.size rfl (.tmp 12) (.tmp 15) 25 5 (.int .u8 0) 1 rfl Tryz.underlying25 info5 rfl (by decide) (by omega) v609 y608 t611 _ _ _ (fun k_ => some k_ ≠ (.slice Ao11 t611.length co11 : Value).ownBlock) (fun _ => False) rfl rfl ?aO ?aR (fun _ _ h => h) (fun _ h => h.elim) ?aF ?aB ?aS ?aL ?_; (case aR => exact CU ((Kd.R_reads' HO613.out).2.2)); (case aB => exact (BU HB.out)); (case aF => exact (fun k_ hk => Kd.fresh' (Kd.R_lt (RU HO613.out)) k_ hk)); (case aO => exact (RU (Kd.R_mono HO610.out (fun _ hk => hk.2)))); (case aS => exact (below_size (BU HB.out))); (case aL => have := LMc6.out; omega); intro v615 w10 ho hb hg hat; rw [← Ny614.out] at ho; have n0_ := Aside0.mk (Kd.R_after (ok := (fun _ => True)) (RU HO613.out) hg hat); have n1_ := Aside0.mk (hb); have n2_ := Aside0.mk (ho); clear HO613 HB HO610; have HO613 := n0_; have HB := n1_; have HO616 := n2_; clear n0_ n1_ n2_; clear ho hb hg hat))
   go_ret
   exact ⟨_, by first | rfl | (simp [errW_none, errW_some] <;> rfl) | (simp [*, errW_none, errW_some] <;> rfl), RU (Kd.R_mono HO616.out (fun _ hk => trivial)), BU HB.out⟩
  ·rw [if_neg c6] at H
   exact absurd H (by simp)

/-! ### estreatref01_Zig: function 55 -/
def estreatref01_Zig.f (a0 : Int) : Option (Int) := if a0 ≥ 0 then (some (IntKind.u64.wrap (2 * (IntKind.u64.wrap (a0))))) else (some (IntKind.u64.wrap ((IntKind.u64.wrap (2 * (IntKind.u64.wrap (wrap64 (-(wrap64 (a0 + 1))))))) + 1)))
set_option maxHeartbeats 8000000 in
set_option maxRecDepth 100000 in
theorem estreatref01_Zig.calls (a0 : Int) (r : Int) (w : World) (h : estreatref01_Zig.f a0 = some r) :
  Calls Tryz.prog 55 #[.int .i64 a0] w fun e w' => e = .returned (.int .u64 r) ∧ Drawn0 w w' := by
 have H : (if a0 ≥ 0 then (some (IntKind.u64.wrap (2 * (IntKind.u64.wrap (a0))))) else (some (IntKind.u64.wrap ((IntKind.u64.wrap (2 * (IntKind.u64.wrap (wrap64 (-(wrap64 (a0 + 1))))))) + 1)))) = some r := h
 clear h
 by_cases c2 : a0 ≥ 0
 ·rw [if_pos c2] at H
  have c2b0 : decide (0 ≤ a0) = true := decide_eq_true c2
  clear c2
  obtain rfl := Option.some.inj H
  go_enter Tryz.func55, Tryz.ntmps55
  go_wp2
  go_ret
  exact ⟨by first | rfl | (simp; done) | (simp [*]; done), by repeat (first | exact Drawn0.refl _ | apply Drawn0.step)⟩
 ·rw [if_neg c2] at H
  have c2b0 : decide (0 ≤ a0) = false := decide_eq_false c2
  clear c2
  obtain rfl := Option.some.inj H
  go_enter Tryz.func55, Tryz.ntmps55
  go_wp2
  go_ret
  exact ⟨by first | rfl | (simp; done) | (simp [*]; done), by repeat (first | exact Drawn0.refl _ | apply Drawn0.step)⟩

end Go.Proofs.YtefcchpjbojdkaaGreatDoor.PChunkPuts
