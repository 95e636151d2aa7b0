/- WRITTEN BY A PROGRAM of this session (wip/tool: a turned copy of the printer), out of the translation: Lean functions with the answers of the Go functions, and the proofs that the Go code comes to them. -/
import Derived.Test.YtehbkhddbdgbcaaGreatDoorChPop
import Derived.Test.YtehbkhddbdgbcaaGreatDoorPChunkBackx1
namespace Go.Proofs.YtehbkhddbdgbcaaGreatDoor.PChunkBack
open Go.RowKit Go.Proofs.YtehbkhddbdgbcaaGreatDoorW.PrintWords Go.Proofs.YtehbkhddbdgbcaaGreatDoorW.PrintLast Go.Proofs.YtehbkhddbdgbcaaGreatDoorW.PrintMore
attribute [local go_sem] max2_int min2_int max_two min_two max_three min_three max_four min_four   -- for this text's walks alone
set_option linter.unusedVariables false
set_option linter.unusedSimpArgs false

attribute [local go_sem high] eqA40
/-! ### estreatref14_Great: function 6 -/
mutual
def estreatref14_Great.l0 : Nat → List (S40) → Int → Int → Int → Option (Bool)
 | 0, _, _, _, _ => none
 | k + 1, x0, x1, x2, x7 => if x7 < (x0.length : Int) then (estreatref14_Great.j1 k x0 x1 x2 x7 (decide (x7 < x1))) else (estreatref14_Great.j1 k x0 x1 x2 x7 false)
def estreatref14_Great.j1 : Nat → List (S40) → Int → Int → Int → Bool → Option (Bool)
 | 0, _, _, _, _, _ => none
 | k + 1, x0, x1, x2, x7, x16 => if x16 = true then (if 0 ≤ x7 then (if x7 < (x0.length : Int) then (if (((rd_T40 x0 x7).f2).size : Int) > x2 then (some true) else (estreatref14_Great.l0 k x0 x1 x2 (wrap64 (x7 + 1)))) else (none)) else (none)) else (some (decide ((x0.length : Int) > x1)))
end
def estreatref14_Great.f (k : Nat) (l0 : List (S40)) (a1 : Int) (a2 : Int) : Option (Bool) := estreatref14_Great.l0 k l0 a1 a2 0
set_option maxHeartbeats 8000000 in
set_option maxRecDepth 100000 in
theorem estreatref14_Great.calls (k : Nat) (A0 : Option Addr) (c0 : Nat) (l0 : List (S40)) (a1 : Int) (a2 : Int) (r : Bool) (w : World) (hr0 : Kd.C k40 w A0 l0.length l0) (hc0 : l0.length ≤ c0) (h : estreatref14_Great.f k l0 a1 a2 = some r) :
  Calls Tryz.prog 6 #[.slice A0 l0.length c0, .int .i64 a1, .int .i64 a2] w fun e w' => e = .returned (.bool r) ∧ Drawn0 w w' := by
 have HR0 := Aside0.mk hr0; have HC0 := Aside0.mk hc0; clear hr0 hc0; have H : (estreatref14_Great.l0 k l0 a1 a2 0) = some r := h; clear h; have H' := Aside0.mk H; clear H; go_enter Tryz.func6, Tryz.ntmps6; go_wp2
 go_loopg [7] k (fun kq v7 w' => ∃ (x7_1 : Int), v7 = .int .i64 x7_1 ∧ Aside0 (estreatref14_Great.l0 kq l0 a1 a2 x7_1 = some r) ∧ Aside0 (kq ≤ k) ∧ Drawn0 w w')
 case atStart => exact ⟨(0), EB, H', ⟨Nat.le_refl _⟩, DR⟩
 case round =>
  clear H'; (try clear p2); obtain ⟨x7_1, rfl, HA, HK1, ⟨m1, rfl⟩⟩ := hrel
  cases gk with
  | zero => exact absurd HA.out (by simp [estreatref14_Great.l0])
  | succ k1 =>
   have H := HA.out; clear HA; simp only [estreatref14_Great.l0] at H; have HC4 := Aside0.mk H; clear H
   go_upto_region 2 with (fail)
   go_cut [16] (fun v16 wc => ∃ (kq : Nat) (x16_3 : Bool), v16 = .bool x16_3 ∧ Aside0 (estreatref14_Great.j1 kq l0 a1 a2 x7_1 x16_3 = some r) ∧ Aside0 (kq ≤ k1) ∧ Drawn0 w wc)
   case first =>
    have H := HC4.out; clear HC4
    by_cases c5 : x7_1 < (l0.length : Int)
    ·rw [if_pos c5] at H; have c5b0 := decide_eq_true c5; clear c5
     (first | rw [c5b0] | (simp only [i64_w, i32_w]; rw [c5b0]) | skip)
     have H' := Aside0.mk H; clear H; go_wp2; go_meet
     case rel => exact ⟨_, (decide (x7_1 < a1)), EB, H', ⟨by have := HK1.out; first | omega | exact Nat.le_refl _⟩, DR⟩
    ·rw [if_neg c5] at H; have c5b0 := decide_eq_false c5; clear c5
     (first | rw [c5b0] | (simp only [i64_w, i32_w]; rw [c5b0]) | skip)
     have H' := Aside0.mk H; clear H; go_wp2; go_meet
     case rel => exact ⟨_, (false), EB, H', ⟨by have := HK1.out; first | omega | exact Nat.le_refl _⟩, DR⟩
   case rest =>
    clear HC4; (try clear p2); (try clear c5); (try clear c5b0); (try clear p2); obtain ⟨kq, x16_3, rfl, HA, HJ3, ⟨mc3, rfl⟩⟩ := hcut
    cases kq with
    | zero => exact absurd HA.out (by simp [estreatref14_Great.j1])
    | succ kj3 =>
     have H := HA.out; clear HA; simp only [estreatref14_Great.j1] at H
     by_cases c6 : x16_3 = true
     ·subst c6
      have H1 : (if 0 ≤ x7_1 then (if x7_1 < (l0.length : Int) then (if (((rd_T40 l0 x7_1).f2).size : Int) > a2 then (some true) else (estreatref14_Great.l0 kj3 l0 a1 a2 (wrap64 (x7_1 + 1)))) else (none)) else (none)) = some r := by rw [if_pos rfl] at H; exact H
      clear H; have H := H1; clear H1
      by_cases c7 : 0 ≤ x7_1
      ·rw [if_pos c7] at H; have c7b0 := decide_eq_true c7; clear c7
       by_cases c8 : x7_1 < (l0.length : Int)
       ·rw [if_pos c8] at H; have c8b0 := decide_eq_true c8; clear c8
        by_cases c9 : (((rd_T40 l0 x7_1).f2).size : Int) > a2
        ·rw [if_pos c9] at H; have c9b0 : decide (a2 < (((rd_T40 l0 x7_1).f2).size : Int)) = true := decide_eq_true c9; clear c9; obtain rfl := Option.some.inj H; have p101 : 0 ≤ (x7_1 : Int) := OD; have q101 : x7_1 < (l0.length : Int) := OD; obtain ⟨ad101, e101, hx101_0, hx101_1, hx101_2⟩ := at_T40 HR0.out x7_1 p101 q101
         cases e101
         replace p101 := eq_true p101; replace q101 := eq_true q101; go_wp2
         go_ret
         exact ⟨EB, DR⟩
        ·rw [if_neg c9] at H; have c9b0 : decide (a2 < (((rd_T40 l0 x7_1).f2).size : Int)) = false := decide_eq_false c9; clear c9; have H' := Aside0.mk H; clear H; have p101 : 0 ≤ (x7_1 : Int) := OD; have q101 : x7_1 < (l0.length : Int) := OD; obtain ⟨ad101, e101, hx101_0, hx101_1, hx101_2⟩ := at_T40 HR0.out x7_1 p101 q101
         cases e101
         replace p101 := eq_true p101; replace q101 := eq_true q101; go_wp2; go_roundg kj3
         case measure => have := HK1.out; have := HJ3.out; omega
         case rel => exact ⟨(wrap64 (x7_1 + 1)), EB, H', ⟨by have := HK1.out; have := HJ3.out; omega⟩, DR⟩
       ·rw [if_neg c8] at H; exact absurd H (by simp)
      ·rw [if_neg c7] at H; exact absurd H (by simp)
     ·replace c6 := Bool.eq_false_iff.mpr c6; subst c6
      have H1 : (some (decide ((l0.length : Int) > a1))) = some r := by rw [if_neg (show ¬ (false = true) by decide)] at H; exact H
      clear H; have H := H1; clear H1; obtain rfl := Option.some.inj H; go_wp2
      go_ret
      exact ⟨EB, DR⟩

/-! ### chunk_isKind: function 14 -/
def chunk_isKind.f (a0 : Int) : Option (Bool) := if a0 = 1 then (some true) else (some (a0 == 2))
set_option maxHeartbeats 8000000 in
set_option maxRecDepth 100000 in
theorem chunk_isKind.calls (a0 : Int) (r : Bool) (w : World) (h : chunk_isKind.f a0 = some r) :
  Calls Tryz.prog 14 #[.int .i64 a0] w fun e w' => e = .returned (.bool r) ∧ Drawn0 w w' := by
 have H : (if a0 = 1 then (some true) else (some (a0 == 2))) = some r := h; clear h
 by_cases c2 : a0 = 1
 ·rw [if_pos c2] at H; have c2b0 : (a0 == 1) = true := beq_iff_eq.mpr c2; have c2b1 : (a0 != 1) = false := bne_eq_false_iff_eq.mpr c2; clear c2; obtain rfl := Option.some.inj H; go_enter Tryz.func14, Tryz.ntmps14; go_wp2
  go_ret
  exact ⟨EB, DR⟩
 ·rw [if_neg c2] at H; have c2b0 : (a0 == 1) = false := beq_eq_false_iff_ne.mpr c2; have c2b1 : (a0 != 1) = true := bne_iff_ne.mpr c2; obtain rfl := Option.some.inj H; go_enter Tryz.func14, Tryz.ntmps14; go_wp2
  go_ret
  exact ⟨EB, DR⟩

/-! ### chunk_of: function 15 -/
def chunk_of.f (a0 : Int) (a1 : Int) : Option (Bool) := if a1 = 2 then (some (a0 == 5)) else (if a0 ≥ 0 then (some (decide (a0 ≤ 4))) else (some false))
set_option maxHeartbeats 8000000 in
set_option maxRecDepth 100000 in
theorem chunk_of.calls (a0 : Int) (a1 : Int) (r : Bool) (w : World) (h : chunk_of.f a0 a1 = some r) :
  Calls Tryz.prog 15 #[.int .i64 a0, .int .i64 a1] w fun e w' => e = .returned (.bool r) ∧ Drawn0 w w' := by
 have H : (if a1 = 2 then (some (a0 == 5)) else (if a0 ≥ 0 then (some (decide (a0 ≤ 4))) else (some false))) = some r := h; clear h
 by_cases c3 : a1 = 2
 ·rw [if_pos c3] at H; have c3b0 : (a1 == 2) = true := beq_iff_eq.mpr c3; have c3b1 : (a1 != 2) = false := bne_eq_false_iff_eq.mpr c3; clear c3; obtain rfl := Option.some.inj H; go_enter Tryz.func15, Tryz.ntmps15; go_wp2
  go_ret
  exact ⟨EB, DR⟩
 ·rw [if_neg c3] at H; have c3b0 : (a1 == 2) = false := beq_eq_false_iff_ne.mpr c3; have c3b1 : (a1 != 2) = true := bne_iff_ne.mpr c3
  by_cases c4 : a0 ≥ 0
  ·rw [if_pos c4] at H; have c4b0 : decide (0 ≤ a0) = true := decide_eq_true c4; clear c4; obtain rfl := Option.some.inj H; go_enter Tryz.func15, Tryz.ntmps15; go_wp2
   go_ret
   exact ⟨EB, DR⟩
  ·rw [if_neg c4] at H; have c4b0 : decide (0 ≤ a0) = false := decide_eq_false c4; clear c4; obtain rfl := Option.some.inj H; go_enter Tryz.func15, Tryz.ntmps15; go_wp2
   go_ret
   exact ⟨EB, DR⟩

/-! ### chunk_right: function 27 -/
def chunk_right.f (a0_0 : Int) (a0_1 : Int) (a0_2 : ByteArray) (a1 : Int) : Option (Bool) := if a0_0 = 0 then (some (a0_0 == 0 && (a0_1 == 0 && (a0_2.toList == ([] : List UInt8))))) else (if a0_0 = 1 then (if a0_2.toList = ([] : List UInt8) then (if a0_0 = a1 then (some true) else (some false)) else (some false)) else (if a0_0 = 2 then (if a0_0 = a1 then (some (a0_1 == 0)) else (some false)) else (some false)))
set_option maxHeartbeats 8000000 in
set_option maxRecDepth 100000 in
theorem chunk_right.calls (a0_0 : Int) (a0_1 : Int) (a0_2 : ByteArray) (a1 : Int) (r : Bool) (w : World) (h : chunk_right.f a0_0 a0_1 a0_2 a1 = some r) :
  Calls Tryz.prog 27 #[.agg #[.int .i64 a0_0, .int .i64 a0_1, .string a0_2], .int .i64 a1] w fun e w' => e = .returned (.bool r) ∧ Below w.heap.size w w' := by
 have hu40 := Tryz.underlying40; have HB := Aside0.mk (Below.refl w.heap.size w); have H : (if a0_0 = 0 then (some (a0_0 == 0 && (a0_1 == 0 && (a0_2.toList == ([] : List UInt8))))) else (if a0_0 = 1 then (if a0_2.toList = ([] : List UInt8) then (if a0_0 = a1 then (some true) else (some false)) else (some false)) else (if a0_0 = 2 then (if a0_0 = a1 then (some (a0_1 == 0)) else (some false)) else (some false)))) = some r := h; clear h
 by_cases c3 : a0_0 = 0
 ·rw [if_pos c3] at H; have c3b0 : (a0_0 == 0) = true := beq_iff_eq.mpr c3; have c3b1 : (a0_0 != 0) = false := bne_eq_false_iff_eq.mpr c3; clear c3; obtain rfl := Option.some.inj H; go_enter Tryz.func27, Tryz.ntmps27
  go_wp2_with (first | ((with_reducible refine gate_dst (N := 2) rfl ?_); refine box_event ?hg (N := 2) ?hd (cs := #[.int .i64 a0_0, .int .i64 a0_1, .string a0_2]) (t := 40) ?hr ?_; (case hd => rfl); (case hg => rfl); (case hr => first | (go_simp; done) | (go_simp; rfl)); intro gb102 hg w4 hbox hb; have BK102 := Aside0.mk hbox; have GW102 := Aside0.mk ((by rw [hg]; exact (below_size (BU HB.out)) : w.heap.size ≤ gb102)); have GE102 := Aside0.mk ((by rw [hg]; exact (below_size (BU HB.out)) : w.heap.size ≤ gb102)); replace HB := Aside0.mk (below_step (BU HB.out) hb); clear hb hbox hg; have hcz5_0 : w4.cell? ⟨gb102, 0, none⟩ = some (.int .i64 a0_0) := (blk_cell BK102.out 0).trans rfl; have hcz5_1 : w4.cell? ⟨gb102, 1, none⟩ = some (.int .i64 a0_1) := (blk_cell BK102.out 1).trans rfl; have hcz5_2 : w4.cell? ⟨gb102, 2, none⟩ = some (.string a0_2) := (blk_cell BK102.out 2).trans rfl; have hfz5_0 := blk_frozen BK102.out 0; have hfz5_1 := blk_frozen BK102.out 1; have hfz5_2 := blk_frozen BK102.out 2))
  go_ret
  exact ⟨ER, by repeat (first | (with_reducible first | exact HB.out | apply below_alloc | apply pw_below_drewN | apply below_drew1 | refine below_set ?_ GE102.out) | exact HB.out)⟩
 ·rw [if_neg c3] at H; have c3b0 : (a0_0 == 0) = false := beq_eq_false_iff_ne.mpr c3; have c3b1 : (a0_0 != 0) = true := bne_iff_ne.mpr c3
  by_cases c6 : a0_0 = 1
  ·rw [if_pos c6] at H; have c6b0 : (a0_0 == 1) = true := beq_iff_eq.mpr c6; have c6b1 : (a0_0 != 1) = false := bne_eq_false_iff_eq.mpr c6; clear c6
   by_cases c7 : a0_2.toList = ([] : List UInt8)
   ·rw [if_pos c7] at H; have c7b0 : (a0_2.toList == ([] : List UInt8)) = true := beq_iff_eq.mpr c7; have c7b1 : (a0_2.toList != ([] : List UInt8)) = false := bne_eq_false_iff_eq.mpr c7; clear c7
    by_cases c8 : a0_0 = a1
    ·rw [if_pos c8] at H; have c8b0 : (a0_0 == a1) = true := beq_iff_eq.mpr c8; have c8b1 : (a0_0 != a1) = false := bne_eq_false_iff_eq.mpr c8; clear c8; obtain rfl := Option.some.inj H; go_enter Tryz.func27, Tryz.ntmps27
     go_wp2_with (first | ((with_reducible refine gate_dst (N := 2) rfl ?_); refine box_event ?hg (N := 2) ?hd (cs := #[.int .i64 a0_0, .int .i64 a0_1, .string a0_2]) (t := 40) ?hr ?_; (case hd => rfl); (case hg => rfl); (case hr => first | (go_simp; done) | (go_simp; rfl)); intro gb102 hg w9 hbox hb; have BK102 := Aside0.mk hbox; have GW102 := Aside0.mk ((by rw [hg]; exact (below_size (BU HB.out)) : w.heap.size ≤ gb102)); have GE102 := Aside0.mk ((by rw [hg]; exact (below_size (BU HB.out)) : w.heap.size ≤ gb102)); replace HB := Aside0.mk (below_step (BU HB.out) hb); clear hb hbox hg; have hcz10_0 : w9.cell? ⟨gb102, 0, none⟩ = some (.int .i64 a0_0) := (blk_cell BK102.out 0).trans rfl; have hcz10_1 : w9.cell? ⟨gb102, 1, none⟩ = some (.int .i64 a0_1) := (blk_cell BK102.out 1).trans rfl; have hcz10_2 : w9.cell? ⟨gb102, 2, none⟩ = some (.string a0_2) := (blk_cell BK102.out 2).trans rfl; have hfz10_0 := blk_frozen BK102.out 0; have hfz10_1 := blk_frozen BK102.out 1; have hfz10_2 := blk_frozen BK102.out 2))
     go_ret
     exact ⟨ER, by repeat (first | (with_reducible first | exact HB.out | apply below_alloc | apply pw_below_drewN | apply below_drew1 | refine below_set ?_ GE102.out) | exact HB.out)⟩
    ·rw [if_neg c8] at H; have c8b0 : (a0_0 == a1) = false := beq_eq_false_iff_ne.mpr c8; have c8b1 : (a0_0 != a1) = true := bne_iff_ne.mpr c8; obtain rfl := Option.some.inj H; go_enter Tryz.func27, Tryz.ntmps27
     go_wp2_with (first | ((with_reducible refine gate_dst (N := 2) rfl ?_); refine box_event ?hg (N := 2) ?hd (cs := #[.int .i64 a0_0, .int .i64 a0_1, .string a0_2]) (t := 40) ?hr ?_; (case hd => rfl); (case hg => rfl); (case hr => first | (go_simp; done) | (go_simp; rfl)); intro gb102 hg w11 hbox hb; have BK102 := Aside0.mk hbox; have GW102 := Aside0.mk ((by rw [hg]; exact (below_size (BU HB.out)) : w.heap.size ≤ gb102)); have GE102 := Aside0.mk ((by rw [hg]; exact (below_size (BU HB.out)) : w.heap.size ≤ gb102)); replace HB := Aside0.mk (below_step (BU HB.out) hb); clear hb hbox hg; have hcz12_0 : w11.cell? ⟨gb102, 0, none⟩ = some (.int .i64 a0_0) := (blk_cell BK102.out 0).trans rfl; have hcz12_1 : w11.cell? ⟨gb102, 1, none⟩ = some (.int .i64 a0_1) := (blk_cell BK102.out 1).trans rfl; have hcz12_2 : w11.cell? ⟨gb102, 2, none⟩ = some (.string a0_2) := (blk_cell BK102.out 2).trans rfl; have hfz12_0 := blk_frozen BK102.out 0; have hfz12_1 := blk_frozen BK102.out 1; have hfz12_2 := blk_frozen BK102.out 2))
     go_ret
     exact ⟨ER, by repeat (first | (with_reducible first | exact HB.out | apply below_alloc | apply pw_below_drewN | apply below_drew1 | refine below_set ?_ GE102.out) | exact HB.out)⟩
   ·rw [if_neg c7] at H; have c7b0 : (a0_2.toList == ([] : List UInt8)) = false := beq_eq_false_iff_ne.mpr c7; have c7b1 : (a0_2.toList != ([] : List UInt8)) = true := bne_iff_ne.mpr c7; obtain rfl := Option.some.inj H; go_enter Tryz.func27, Tryz.ntmps27
    go_wp2_with (first | ((with_reducible refine gate_dst (N := 2) rfl ?_); refine box_event ?hg (N := 2) ?hd (cs := #[.int .i64 a0_0, .int .i64 a0_1, .string a0_2]) (t := 40) ?hr ?_; (case hd => rfl); (case hg => rfl); (case hr => first | (go_simp; done) | (go_simp; rfl)); intro gb102 hg w13 hbox hb; have BK102 := Aside0.mk hbox; have GW102 := Aside0.mk ((by rw [hg]; exact (below_size (BU HB.out)) : w.heap.size ≤ gb102)); have GE102 := Aside0.mk ((by rw [hg]; exact (below_size (BU HB.out)) : w.heap.size ≤ gb102)); replace HB := Aside0.mk (below_step (BU HB.out) hb); clear hb hbox hg; have hcz14_0 : w13.cell? ⟨gb102, 0, none⟩ = some (.int .i64 a0_0) := (blk_cell BK102.out 0).trans rfl; have hcz14_1 : w13.cell? ⟨gb102, 1, none⟩ = some (.int .i64 a0_1) := (blk_cell BK102.out 1).trans rfl; have hcz14_2 : w13.cell? ⟨gb102, 2, none⟩ = some (.string a0_2) := (blk_cell BK102.out 2).trans rfl; have hfz14_0 := blk_frozen BK102.out 0; have hfz14_1 := blk_frozen BK102.out 1; have hfz14_2 := blk_frozen BK102.out 2))
    go_ret
    exact ⟨ER, by repeat (first | (with_reducible first | exact HB.out | apply below_alloc | apply pw_below_drewN | apply below_drew1 | refine below_set ?_ GE102.out) | exact HB.out)⟩
  ·rw [if_neg c6] at H; have c6b0 : (a0_0 == 1) = false := beq_eq_false_iff_ne.mpr c6; have c6b1 : (a0_0 != 1) = true := bne_iff_ne.mpr c6
   by_cases c15 : a0_0 = 2
   ·rw [if_pos c15] at H; have c15b0 : (a0_0 == 2) = true := beq_iff_eq.mpr c15; have c15b1 : (a0_0 != 2) = false := bne_eq_false_iff_eq.mpr c15; clear c15
    by_cases c16 : a0_0 = a1
    ·rw [if_pos c16] at H; have c16b0 : (a0_0 == a1) = true := beq_iff_eq.mpr c16; have c16b1 : (a0_0 != a1) = false := bne_eq_false_iff_eq.mpr c16; clear c16; obtain rfl := Option.some.inj H; go_enter Tryz.func27, Tryz.ntmps27
     go_wp2_with (first | ((with_reducible refine gate_dst (N := 2) rfl ?_); refine box_event ?hg (N := 2) ?hd (cs := #[.int .i64 a0_0, .int .i64 a0_1, .string a0_2]) (t := 40) ?hr ?_; (case hd => rfl); (case hg => rfl); (case hr => first | (go_simp; done) | (go_simp; rfl)); intro gb102 hg w17 hbox hb; have BK102 := Aside0.mk hbox; have GW102 := Aside0.mk ((by rw [hg]; exact (below_size (BU HB.out)) : w.heap.size ≤ gb102)); have GE102 := Aside0.mk ((by rw [hg]; exact (below_size (BU HB.out)) : w.heap.size ≤ gb102)); replace HB := Aside0.mk (below_step (BU HB.out) hb); clear hb hbox hg; have hcz18_0 : w17.cell? ⟨gb102, 0, none⟩ = some (.int .i64 a0_0) := (blk_cell BK102.out 0).trans rfl; have hcz18_1 : w17.cell? ⟨gb102, 1, none⟩ = some (.int .i64 a0_1) := (blk_cell BK102.out 1).trans rfl; have hcz18_2 : w17.cell? ⟨gb102, 2, none⟩ = some (.string a0_2) := (blk_cell BK102.out 2).trans rfl; have hfz18_0 := blk_frozen BK102.out 0; have hfz18_1 := blk_frozen BK102.out 1; have hfz18_2 := blk_frozen BK102.out 2))
     go_ret
     exact ⟨ER, by repeat (first | (with_reducible first | exact HB.out | apply below_alloc | apply pw_below_drewN | apply below_drew1 | refine below_set ?_ GE102.out) | exact HB.out)⟩
    ·rw [if_neg c16] at H; have c16b0 : (a0_0 == a1) = false := beq_eq_false_iff_ne.mpr c16; have c16b1 : (a0_0 != a1) = true := bne_iff_ne.mpr c16; obtain rfl := Option.some.inj H; go_enter Tryz.func27, Tryz.ntmps27
     go_wp2_with (first | ((with_reducible refine gate_dst (N := 2) rfl ?_); refine box_event ?hg (N := 2) ?hd (cs := #[.int .i64 a0_0, .int .i64 a0_1, .string a0_2]) (t := 40) ?hr ?_; (case hd => rfl); (case hg => rfl); (case hr => first | (go_simp; done) | (go_simp; rfl)); intro gb102 hg w19 hbox hb; have BK102 := Aside0.mk hbox; have GW102 := Aside0.mk ((by rw [hg]; exact (below_size (BU HB.out)) : w.heap.size ≤ gb102)); have GE102 := Aside0.mk ((by rw [hg]; exact (below_size (BU HB.out)) : w.heap.size ≤ gb102)); replace HB := Aside0.mk (below_step (BU HB.out) hb); clear hb hbox hg; have hcz20_0 : w19.cell? ⟨gb102, 0, none⟩ = some (.int .i64 a0_0) := (blk_cell BK102.out 0).trans rfl; have hcz20_1 : w19.cell? ⟨gb102, 1, none⟩ = some (.int .i64 a0_1) := (blk_cell BK102.out 1).trans rfl; have hcz20_2 : w19.cell? ⟨gb102, 2, none⟩ = some (.string a0_2) := (blk_cell BK102.out 2).trans rfl; have hfz20_0 := blk_frozen BK102.out 0; have hfz20_1 := blk_frozen BK102.out 1; have hfz20_2 := blk_frozen BK102.out 2))
     go_ret
     exact ⟨ER, by repeat (first | (with_reducible first | exact HB.out | apply below_alloc | apply pw_below_drewN | apply below_drew1 | refine below_set ?_ GE102.out) | exact HB.out)⟩
   ·rw [if_neg c15] at H; have c15b0 : (a0_0 == 2) = false := beq_eq_false_iff_ne.mpr c15; have c15b1 : (a0_0 != 2) = true := bne_iff_ne.mpr c15; obtain rfl := Option.some.inj H; go_enter Tryz.func27, Tryz.ntmps27
    go_wp2_with (first | ((with_reducible refine gate_dst (N := 2) rfl ?_); refine box_event ?hg (N := 2) ?hd (cs := #[.int .i64 a0_0, .int .i64 a0_1, .string a0_2]) (t := 40) ?hr ?_; (case hd => rfl); (case hg => rfl); (case hr => first | (go_simp; done) | (go_simp; rfl)); intro gb102 hg w21 hbox hb; have BK102 := Aside0.mk hbox; have GW102 := Aside0.mk ((by rw [hg]; exact (below_size (BU HB.out)) : w.heap.size ≤ gb102)); have GE102 := Aside0.mk ((by rw [hg]; exact (below_size (BU HB.out)) : w.heap.size ≤ gb102)); replace HB := Aside0.mk (below_step (BU HB.out) hb); clear hb hbox hg; have hcz22_0 : w21.cell? ⟨gb102, 0, none⟩ = some (.int .i64 a0_0) := (blk_cell BK102.out 0).trans rfl; have hcz22_1 : w21.cell? ⟨gb102, 1, none⟩ = some (.int .i64 a0_1) := (blk_cell BK102.out 1).trans rfl; have hcz22_2 : w21.cell? ⟨gb102, 2, none⟩ = some (.string a0_2) := (blk_cell BK102.out 2).trans rfl; have hfz22_0 := blk_frozen BK102.out 0; have hfz22_1 := blk_frozen BK102.out 1; have hfz22_2 := blk_frozen BK102.out 2))
    go_ret
    exact ⟨ER, by repeat (first | (with_reducible first | exact HB.out | apply below_alloc | apply pw_below_drewN | apply below_drew1 | refine below_set ?_ GE102.out) | exact HB.out)⟩

/-! ### chunk_check: function 16 -/
mutual
def chunk_check.l0 : Nat → List (S40) → Int → List (S40) → Int → Int → Option (Int)
 | 0, _, _, _, _, _ => none
 | k + 1, x0, x1, x12, x13, x14 => if x14 < x13 then (if 0 ≤ x14 then (if x14 < (x12.length : Int) then (if (((rd_T40 x12 x14).f2).size : Int) > 65536 then (some 12) else (chunk_check.l0 k x0 x1 x12 x13 (wrap64 (x14 + 1)))) else (none)) else (none)) else (chunk_check.l1 k x1 x0 (x0.length : Int) 0)
def chunk_check.l1 : Nat → Int → List (S40) → Int → Int → Option (Int)
 | 0, _, _, _, _ => none
 | k + 1, x1, x23, x24, x25 => if x25 < x24 then (if 0 ≤ x25 then (if x25 < (x23.length : Int) then ((chunk_right.f ((rd_T40 x23 x25).f0) ((rd_T40 x23 x25).f1) ((rd_T40 x23 x25).f2) x1).bind fun t107 => (if t107 = true then (chunk_check.l1 k x1 x23 x24 (wrap64 (x25 + 1))) else (some 11))) else (none)) else (none)) else (some 0)
end
def chunk_check.f (k : Nat) (l0 : List (S40)) (a1 : Int) : Option (Int) := if (l0.length : Int) > 65536 then (some 12) else (chunk_check.l0 k l0 a1 l0 (l0.length : Int) 0)
set_option maxHeartbeats 8000000 in
set_option maxRecDepth 100000 in
theorem chunk_check.calls (k : Nat) (A0 : Option Addr) (c0 : Nat) (l0 : List (S40)) (a1 : Int) (r : Int) (w : World) (hr0 : Kd.C k40 w A0 l0.length l0) (hc0 : l0.length ≤ c0) (h : chunk_check.f k l0 a1 = some r) :
  Calls Tryz.prog 16 #[.slice A0 l0.length c0, .int .i64 a1] w fun e w' => e = .returned (.int .i64 r) ∧ Below w.heap.size w w' := by
 have hu40 := Tryz.underlying40; have HR0 := Aside0.mk hr0; have HC0 := Aside0.mk hc0; clear hr0 hc0; have HB := Aside0.mk (Below.refl w.heap.size w); have H : (if (l0.length : Int) > 65536 then (some 12) else (chunk_check.l0 k l0 a1 l0 (l0.length : Int) 0)) = some r := h; clear h
 by_cases c3 : (l0.length : Int) > 65536
 ·rw [if_pos c3] at H; have c3b0 : decide (65536 < (l0.length : Int)) = true := decide_eq_true c3; have c3b1 : decide (65536 < l0.length) = true := decide_eq_true (by omega); clear c3; obtain rfl := Option.some.inj H; go_enter Tryz.func16, Tryz.ntmps16; go_wp2
  go_ret
  exact ⟨ER, BU HB.out⟩
 ·rw [if_neg c3] at H; have c3b0 : decide (65536 < (l0.length : Int)) = false := decide_eq_false c3; have c3b1 : decide (65536 < l0.length) = false := decide_eq_false (by omega); clear c3; have H' := Aside0.mk H; clear H; go_enter Tryz.func16, Tryz.ntmps16; go_wp2
  go_loopg [14] k (fun kq v14 w' => ∃ (x14_1 : Int), v14 = .int .i64 x14_1 ∧ Aside0 (chunk_check.l0 kq l0 a1 l0 (l0.length : Int) x14_1 = some r) ∧ Aside0 (kq ≤ k) ∧ Aside0 (Below w.heap.size w w'))
  case atStart => exact ⟨(0), EB, H', ⟨Nat.le_refl _⟩, ⟨BU HB.out⟩⟩
  case round =>
   clear H'; (try clear c1); (try clear p2); (try clear c3); (try clear c3b0); (try clear c3b1); obtain ⟨x14_1, rfl, HA, HK1, HB⟩ := hrel
   cases gk with
   | zero => exact absurd HA.out (by simp [chunk_check.l0])
   | succ k1 =>
    have H := HA.out; clear HA; simp only [chunk_check.l0] at H
    by_cases c4 : x14_1 < (l0.length : Int)
    ·rw [if_pos c4] at H; have c4b0 := decide_eq_true c4; clear c4
     by_cases c5 : 0 ≤ x14_1
     ·rw [if_pos c5] at H; have c5b0 := decide_eq_true c5; clear c5
      by_cases c6 : x14_1 < (l0.length : Int)
      ·rw [if_pos c6] at H; have c6b0 := decide_eq_true c6; clear c6
       by_cases c7 : (((rd_T40 l0 x14_1).f2).size : Int) > 65536
       ·rw [if_pos c7] at H; have c7b0 : decide (65536 < (((rd_T40 l0 x14_1).f2).size : Int)) = true := decide_eq_true c7; have c7b1 : decide (65536 < ((rd_T40 l0 x14_1).f2).size) = true := decide_eq_true (by omega); clear c7; obtain rfl := Option.some.inj H; have p103 : 0 ≤ (x14_1 : Int) := OD; have q103 : x14_1 < (l0.length : Int) := OD; obtain ⟨ad103, e103, hx103_0, hx103_1, hx103_2⟩ := at_T40 HR0.out x14_1 p103 q103
        cases e103
        replace hx103_0 := (HB.out.cell (World.block_lt_of_cell? w _ hx103_0)).trans hx103_0; replace hx103_1 := (HB.out.cell (World.block_lt_of_cell? w _ hx103_1)).trans hx103_1; replace hx103_2 := (HB.out.cell (World.block_lt_of_cell? w _ hx103_2)).trans hx103_2; replace p103 := eq_true p103; replace q103 := eq_true q103
        go_wp2_with (first | ((with_reducible refine gate_dst (N := 6) rfl ?_); refine box_event ?hg (N := 6) ?hd (cs := #[.int .i64 0, .int .i64 0, .string (⟨#[]⟩ : ByteArray)]) (t := 40) ?hr ?_; (case hd => rfl); (case hg => rfl); (case hr => first | (go_simp; done) | (go_simp; rfl)); intro gb104 hg w8 hbox hb; have BK104 := Aside0.mk hbox; have GW104 := Aside0.mk ((by rw [hg]; exact (below_size (BU HB.out)) : w.heap.size ≤ gb104)); have GE104 := Aside0.mk ((by rw [hg]; exact (below_size (BU HB.out)) : w.heap.size ≤ gb104)); replace HB := Aside0.mk (below_step (BU HB.out) hb); clear hb hbox hg; have hcz9_0 : w8.cell? ⟨gb104, 0, none⟩ = some (.int .i64 0) := (blk_cell BK104.out 0).trans rfl; have hcz9_1 : w8.cell? ⟨gb104, 1, none⟩ = some (.int .i64 0) := (blk_cell BK104.out 1).trans rfl; have hcz9_2 : w8.cell? ⟨gb104, 2, none⟩ = some (.string (⟨#[]⟩ : ByteArray)) := (blk_cell BK104.out 2).trans rfl; have hfz9_0 := blk_frozen BK104.out 0; have hfz9_1 := blk_frozen BK104.out 1; have hfz9_2 := blk_frozen BK104.out 2))
        go_ret
        exact ⟨ER, by repeat (first | (with_reducible first | exact HB.out | apply below_alloc | apply pw_below_drewN | apply below_drew1 | refine below_set ?_ GE104.out) | exact HB.out)⟩
       ·rw [if_neg c7] at H; have c7b0 : decide (65536 < (((rd_T40 l0 x14_1).f2).size : Int)) = false := decide_eq_false c7; have c7b1 : decide (65536 < ((rd_T40 l0 x14_1).f2).size) = false := decide_eq_false (by omega); clear c7; have H' := Aside0.mk H; clear H; have p103 : 0 ≤ (x14_1 : Int) := OD; have q103 : x14_1 < (l0.length : Int) := OD; obtain ⟨ad103, e103, hx103_0, hx103_1, hx103_2⟩ := at_T40 HR0.out x14_1 p103 q103
        cases e103
        replace hx103_0 := (HB.out.cell (World.block_lt_of_cell? w _ hx103_0)).trans hx103_0; replace hx103_1 := (HB.out.cell (World.block_lt_of_cell? w _ hx103_1)).trans hx103_1; replace hx103_2 := (HB.out.cell (World.block_lt_of_cell? w _ hx103_2)).trans hx103_2; replace p103 := eq_true p103; replace q103 := eq_true q103
        go_wp2_with (first | ((with_reducible refine gate_dst (N := 6) rfl ?_); refine box_event ?hg (N := 6) ?hd (cs := #[.int .i64 0, .int .i64 0, .string (⟨#[]⟩ : ByteArray)]) (t := 40) ?hr ?_; (case hd => rfl); (case hg => rfl); (case hr => first | (go_simp; done) | (go_simp; rfl)); intro gb104 hg w10 hbox hb; have BK104 := Aside0.mk hbox; have GW104 := Aside0.mk ((by rw [hg]; exact (below_size (BU HB.out)) : w.heap.size ≤ gb104)); have GE104 := Aside0.mk ((by rw [hg]; exact (below_size (BU HB.out)) : w.heap.size ≤ gb104)); replace HB := Aside0.mk (below_step (BU HB.out) hb); clear hb hbox hg; have hcz11_0 : w10.cell? ⟨gb104, 0, none⟩ = some (.int .i64 0) := (blk_cell BK104.out 0).trans rfl; have hcz11_1 : w10.cell? ⟨gb104, 1, none⟩ = some (.int .i64 0) := (blk_cell BK104.out 1).trans rfl; have hcz11_2 : w10.cell? ⟨gb104, 2, none⟩ = some (.string (⟨#[]⟩ : ByteArray)) := (blk_cell BK104.out 2).trans rfl; have hfz11_0 := blk_frozen BK104.out 0; have hfz11_1 := blk_frozen BK104.out 1; have hfz11_2 := blk_frozen BK104.out 2))
        go_roundg k1
        case measure => have := HK1.out; omega
        case rel => exact ⟨(wrap64 (x14_1 + 1)), EB, H', ⟨by have := HK1.out; omega⟩, ⟨by repeat (first | (with_reducible first | exact HB.out | apply below_alloc | apply pw_below_drewN | apply below_drew1 | refine below_set ?_ GE104.out) | exact HB.out)⟩⟩
      ·rw [if_neg c6] at H; exact absurd H (by simp)
     ·rw [if_neg c5] at H; exact absurd H (by simp)
    ·rw [if_neg c4] at H; have c4b0 := decide_eq_false c4; clear c4; have H' := Aside0.mk H; clear H; go_wp2
     go_loopg [25] k1 (fun kq v25 w' => ∃ (x25_2 : Int), v25 = .int .i64 x25_2 ∧ Aside0 (chunk_check.l1 kq a1 l0 (l0.length : Int) x25_2 = some r) ∧ Aside0 (kq ≤ k1) ∧ Aside0 (Below w.heap.size w w'))
     case atStart => exact ⟨(0), EB, H', ⟨Nat.le_refl _⟩, ⟨BU HB.out⟩⟩
     case round =>
      clear H'; (try clear c1); (try clear p1); (try clear q1); (try clear hx1); (try clear p2); (try clear c3); (try clear c3b0); (try clear c3b1); (try clear c4); (try clear c4b0); (try clear c5); (try clear c5b0); (try clear c6); (try clear c6b0); (try clear p6); (try clear c7); (try clear c7b0); (try clear c7b1); (try clear p10); (try clear q10); (try clear hx10); (try clear hcz11_0); (try clear hcz11_1); (try clear hcz11_2); (try clear hcz9_0); (try clear hcz9_1); (try clear hcz9_2); (try clear hfz11_0); (try clear hfz11_1); (try clear hfz11_2); (try clear hfz9_0); (try clear hfz9_1); (try clear hfz9_2); (try clear hx103_0); (try clear hx103_1); (try clear hx103_2); (try clear p103); (try clear p2); (try clear q103); obtain ⟨x25_2, rfl, HA, HK2, HB⟩ := hrel
      cases gk with
      | zero => exact absurd HA.out (by simp [chunk_check.l1])
      | succ k2 =>
       have H := HA.out; clear HA; simp only [chunk_check.l1] at H
       by_cases c12 : x25_2 < (l0.length : Int)
       ·rw [if_pos c12] at H; have c12b0 := decide_eq_true c12; clear c12
        by_cases c13 : 0 ≤ x25_2
        ·rw [if_pos c13] at H; have c13b0 := decide_eq_true c13; clear c13
         by_cases c14 : x25_2 < (l0.length : Int)
         ·rw [if_pos c14] at H; have c14b0 := decide_eq_true c14; clear c14; replace H := Option.bind_eq_some_iff.mp H; obtain ⟨t107, A150, H⟩ := H; (try dsimp only at H); have A15 := Aside0.mk A150; clear A150
          by_cases c16 : t107 = true
          ·subst c16
           have H1 : (chunk_check.l1 k2 a1 l0 (l0.length : Int) (wrap64 (x25_2 + 1))) = some r := by rw [if_pos rfl] at H; exact H
           clear H; have H := H1; clear H1; have H' := Aside0.mk H; clear H; have p105 : 0 ≤ (x25_2 : Int) := OD; have q105 : x25_2 < (l0.length : Int) := OD; obtain ⟨ad105, e105, hx105_0, hx105_1, hx105_2⟩ := at_T40 HR0.out x25_2 p105 q105
           cases e105
           replace hx105_0 := (HB.out.cell (World.block_lt_of_cell? w _ hx105_0)).trans hx105_0; replace hx105_1 := (HB.out.cell (World.block_lt_of_cell? w _ hx105_1)).trans hx105_1; replace hx105_2 := (HB.out.cell (World.block_lt_of_cell? w _ hx105_2)).trans hx105_2; replace p105 := eq_true p105; replace q105 := eq_true q105
           go_wp2_with (first | ((with_reducible refine gate_dst (N := 8) rfl ?_); refine box_event ?hg (N := 8) ?hd (cs := #[.int .i64 0, .int .i64 0, .string (⟨#[]⟩ : ByteArray)]) (t := 40) ?hr ?_; (case hd => rfl); (case hg => rfl); (case hr => first | (go_simp; done) | (go_simp; rfl)); intro gb106 hg w17 hbox hb; have BK106 := Aside0.mk hbox; have GW106 := Aside0.mk ((by rw [hg]; exact (below_size (BU HB.out)) : w.heap.size ≤ gb106)); have GE106 := Aside0.mk ((by rw [hg]; exact (below_size (BU HB.out)) : w.heap.size ≤ gb106)); replace HB := Aside0.mk (below_step (BU HB.out) hb); clear hb hbox hg; have hcz18_0 : w17.cell? ⟨gb106, 0, none⟩ = some (.int .i64 0) := (blk_cell BK106.out 0).trans rfl; have hcz18_1 : w17.cell? ⟨gb106, 1, none⟩ = some (.int .i64 0) := (blk_cell BK106.out 1).trans rfl; have hcz18_2 : w17.cell? ⟨gb106, 2, none⟩ = some (.string (⟨#[]⟩ : ByteArray)) := (blk_cell BK106.out 2).trans rfl; have hfz18_0 := blk_frozen BK106.out 0; have hfz18_1 := blk_frozen BK106.out 1; have hfz18_2 := blk_frozen BK106.out 2) | (go_at_call 27; (with_reducible refine (chunk_right.calls ((rd_T40 l0 x25_2).f0) ((rd_T40 l0 x25_2).f1) ((rd_T40 l0 x25_2).f2) a1 true _ A15.out).mono ?_); rintro e w19 ⟨rfl, hb⟩; replace BK106 := Aside0.mk (blk_below (g := gb106) (o := .cells #[.int .i64 ((rd_T40 l0 x25_2).f0), .int .i64 ((rd_T40 l0 x25_2).f1), .string ((rd_T40 l0 x25_2).f2)] 40 (0, 0)) (by (with_reducible repeat (first | refine blk_drewN ?_ _ | refine blk_drew ?_ | refine blk_alloc ?_ _)); refine blk_put (cs := #[.int .i64 ((rd_T40 l0 x25_2).f0), .int .i64 ((rd_T40 l0 x25_2).f1), .string (⟨#[]⟩ : ByteArray)]) ?_ 2 _ rfl; (with_reducible repeat (first | refine blk_drewN ?_ _ | refine blk_drew ?_ | refine blk_alloc ?_ _)); refine blk_put (cs := #[.int .i64 ((rd_T40 l0 x25_2).f0), .int .i64 0, .string (⟨#[]⟩ : ByteArray)]) ?_ 1 _ rfl; (with_reducible repeat (first | refine blk_drewN ?_ _ | refine blk_drew ?_ | refine blk_alloc ?_ _)); refine blk_put (cs := #[.int .i64 0, .int .i64 0, .string (⟨#[]⟩ : ByteArray)]) ?_ 0 _ rfl; (with_reducible repeat (first | refine blk_drewN ?_ _ | refine blk_drew ?_ | refine blk_alloc ?_ _)); exact BK106.out) hb); replace HB := Aside0.mk (below_step (by repeat (first | (with_reducible first | exact HB.out | apply below_alloc | apply pw_below_drewN | apply below_drew1 | refine below_set ?_ GE106.out) | exact HB.out)) hb); clear hb))
           go_roundg k2
           case measure => have := HK1.out; have := HK2.out; omega
           case rel => exact ⟨(wrap64 (x25_2 + 1)), EB, H', ⟨by have := HK1.out; have := HK2.out; omega⟩, ⟨by repeat (first | (with_reducible first | exact HB.out | apply below_alloc | apply pw_below_drewN | apply below_drew1 | refine below_set ?_ GE106.out) | exact HB.out)⟩⟩
          ·replace c16 := Bool.eq_false_iff.mpr c16; subst c16
           have H1 : (some 11) = some r := by rw [if_neg (show ¬ (false = true) by decide)] at H; exact H
           clear H; have H := H1; clear H1; obtain rfl := Option.some.inj H; have p105 : 0 ≤ (x25_2 : Int) := OD; have q105 : x25_2 < (l0.length : Int) := OD; obtain ⟨ad105, e105, hx105_0, hx105_1, hx105_2⟩ := at_T40 HR0.out x25_2 p105 q105
           cases e105
           replace hx105_0 := (HB.out.cell (World.block_lt_of_cell? w _ hx105_0)).trans hx105_0; replace hx105_1 := (HB.out.cell (World.block_lt_of_cell? w _ hx105_1)).trans hx105_1; replace hx105_2 := (HB.out.cell (World.block_lt_of_cell? w _ hx105_2)).trans hx105_2; replace p105 := eq_true p105; replace q105 := eq_true q105
           go_wp2_with (first | ((with_reducible refine gate_dst (N := 8) rfl ?_); refine box_event ?hg (N := 8) ?hd (cs := #[.int .i64 0, .int .i64 0, .string (⟨#[]⟩ : ByteArray)]) (t := 40) ?hr ?_; (case hd => rfl); (case hg => rfl); (case hr => first | (go_simp; done) | (go_simp; rfl)); intro gb106 hg w20 hbox hb; have BK106 := Aside0.mk hbox; have GW106 := Aside0.mk ((by rw [hg]; exact (below_size (BU HB.out)) : w.heap.size ≤ gb106)); have GE106 := Aside0.mk ((by rw [hg]; exact (below_size (BU HB.out)) : w.heap.size ≤ gb106)); replace HB := Aside0.mk (below_step (BU HB.out) hb); clear hb hbox hg; have hcz21_0 : w20.cell? ⟨gb106, 0, none⟩ = some (.int .i64 0) := (blk_cell BK106.out 0).trans rfl; have hcz21_1 : w20.cell? ⟨gb106, 1, none⟩ = some (.int .i64 0) := (blk_cell BK106.out 1).trans rfl; have hcz21_2 : w20.cell? ⟨gb106, 2, none⟩ = some (.string (⟨#[]⟩ : ByteArray)) := (blk_cell BK106.out 2).trans rfl; have hfz21_0 := blk_frozen BK106.out 0; have hfz21_1 := blk_frozen BK106.out 1; have hfz21_2 := blk_frozen BK106.out 2) | (go_at_call 27; (with_reducible refine (chunk_right.calls ((rd_T40 l0 x25_2).f0) ((rd_T40 l0 x25_2).f1) ((rd_T40 l0 x25_2).f2) a1 false _ A15.out).mono ?_); rintro e w22 ⟨rfl, hb⟩; replace BK106 := Aside0.mk (blk_below (g := gb106) (o := .cells #[.int .i64 ((rd_T40 l0 x25_2).f0), .int .i64 ((rd_T40 l0 x25_2).f1), .string ((rd_T40 l0 x25_2).f2)] 40 (0, 0)) (by (with_reducible repeat (first | refine blk_drewN ?_ _ | refine blk_drew ?_ | refine blk_alloc ?_ _)); refine blk_put (cs := #[.int .i64 ((rd_T40 l0 x25_2).f0), .int .i64 ((rd_T40 l0 x25_2).f1), .string (⟨#[]⟩ : ByteArray)]) ?_ 2 _ rfl; (with_reducible repeat (first | refine blk_drewN ?_ _ | refine blk_drew ?_ | refine blk_alloc ?_ _)); refine blk_put (cs := #[.int .i64 ((rd_T40 l0 x25_2).f0), .int .i64 0, .string (⟨#[]⟩ : ByteArray)]) ?_ 1 _ rfl; (with_reducible repeat (first | refine blk_drewN ?_ _ | refine blk_drew ?_ | refine blk_alloc ?_ _)); refine blk_put (cs := #[.int .i64 0, .int .i64 0, .string (⟨#[]⟩ : ByteArray)]) ?_ 0 _ rfl; (with_reducible repeat (first | refine blk_drewN ?_ _ | refine blk_drew ?_ | refine blk_alloc ?_ _)); exact BK106.out) hb); replace HB := Aside0.mk (below_step (by repeat (first | (with_reducible first | exact HB.out | apply below_alloc | apply pw_below_drewN | apply below_drew1 | refine below_set ?_ GE106.out) | exact HB.out)) hb); clear hb))
           go_ret
           exact ⟨ER, by repeat (first | (with_reducible first | exact HB.out | apply below_alloc | apply pw_below_drewN | apply below_drew1 | refine below_set ?_ GE106.out) | exact HB.out)⟩
         ·rw [if_neg c14] at H; exact absurd H (by simp)
        ·rw [if_neg c13] at H; exact absurd H (by simp)
       ·rw [if_neg c12] at H; have c12b0 := decide_eq_false c12; clear c12; obtain rfl := Option.some.inj H; go_wp2
        go_ret
        exact ⟨ER, BU HB.out⟩

-- NOT PRINTED: function 36 (bitmap_Set_Len)

/-! ### num_PutVar: function 59 -/
def num_PutVar.l0 : Nat → List Int → Int → Option (List Int)
 | 0, _, _ => none
 | k + 1, x0, x1 => if x1 ≥ 128 then (if x0.length < 140737488355328 then (num_PutVar.l0 k (x0 ++ [Go.bits .or .u8 ((x1) % 256) 128]) (x1 / 128)) else (none)) else (if x0.length < 140737488355328 then (some (x0 ++ [(x1) % 256])) else (none))
def num_PutVar.f (k : Nat) (l0 : List Int) (a1 : Int) : Option (List Int) := num_PutVar.l0 k l0 a1
set_option maxHeartbeats 8000000 in
set_option maxRecDepth 100000 in
theorem num_PutVar.calls (k : Nat) (P0_ : Nat → Prop) (u9000_ : Value) (l0 : List Int) (a1 : Int) (r : List Int) (w0 w : World) (hB : Below w0.heap.size w0 w) (ho0 : Kd.R (Kd.int .u8) 5 w w0.heap.size P0_ u9000_ l0) (h : num_PutVar.f k l0 a1 = some r) :
  Calls Tryz.prog 59 #[u9000_, .int .u64 a1] w fun e w' => ∃ v0_ : Value, e = .returned (v0_) ∧ Kd.R (Kd.int .u8) 5 w' w0.heap.size (fun k_ => (P0_ k_ ∨ w.heap.size ≤ k_)) v0_ r ∧ Below w0.heap.size w0 w' ∧ Kept w w' (fun k_ => P0_ k_) := by
 have HO0 := Aside0.mk (show Kd.R (Kd.int .u8) 5 w w0.heap.size (fun k_ => (P0_ k_ ∨ w.heap.size ≤ k_)) u9000_ l0 from Kd.R_mono ho0 (fun k_ hk => (.inl hk))); have HK := Aside0.mk (Kept.refl w (fun k_ => P0_ k_)); have HW0 := Aside0.mk hB.size; have HB := Aside0.mk hB; clear hB; have H : (num_PutVar.l0 k l0 a1) = some r := h; clear h; have H' := Aside0.mk H; clear H; go_enter Tryz.func59, Tryz.ntmps59; go_wp2
 go_loopg [0, 1] k (fun kq v0 v1 w' => ∃ (x0_1 : List Int) (x1_1 : Int), v1 = .int .u64 x1_1 ∧ Aside0 (num_PutVar.l0 kq x0_1 x1_1 = some r) ∧ Aside0 (kq ≤ k) ∧ Aside0 (Kd.R (Kd.int .u8) 5 w' w0.heap.size (fun k_ => (P0_ k_ ∨ w.heap.size ≤ k_)) v0 x0_1) ∧ Aside0 (Kept w w' (fun k_ => P0_ k_)) ∧ Aside0 (Below w0.heap.size w0 w'))
 case atStart => exact ⟨(l0), (a1), EB, H', ⟨Nat.le_refl _⟩, ⟨RU HO0.out⟩, ⟨by repeat (first | (with_reducible first | exact HK.out | apply Kept.alloc | apply Kept.drewN | apply Kept.drew) | exact HK.out)⟩, ⟨BU HB.out⟩⟩
 case round =>
  clear H'; (try clear p2); obtain ⟨x0_1, x1_1, rfl, HA, HK1, HO_0, HK, HB⟩ := hrel
  cases gk with
  | zero => exact absurd HA.out (by simp [num_PutVar.l0])
  | succ k1 =>
   have H := HA.out; clear HA; simp only [num_PutVar.l0] at H
   by_cases c3 : x1_1 ≥ 128
   ·rw [if_pos c3] at H; have c3b0 : decide (128 ≤ x1_1) = true := decide_eq_true c3; clear c3
    by_cases c4 : x0_1.length < 140737488355328
    ·rw [if_pos c4] at H; have LMc4 := Aside0.mk c4; clear c4
     obtain ⟨y108, hy108⟩ : ∃ y_ : List Int, y_ = (x0_1 ++ [Go.bits .or .u8 ((x1_1) % 256) 128]) := ⟨_, rfl⟩
     replace H : (num_PutVar.l0 k1 y108 (x1_1 / 128)) = some r := HY hy108 H; have Ny108 := Aside0.mk hy108; clear hy108; have H' := Aside0.mk H; clear H
     go_wp2_with (first | ((with_reducible refine gate_builtin (b := .append) (xs := #[.tmp 9, .tmp 13]) rfl ?_); at_builtin; refine Kd.R_append (Kd.int .u8) (w0 := w0) w0.heap.size rfl (.tmp 9) (.tmp 13) 25 5 (.int .u8 0) 1 rfl Tryz.underlying25 info5 rfl (by decide) (by omega) u0 x0_1 (Go.bits .or .u8 ((x1_1) % 256) 128) [.int .u8 (Go.bits .or .u8 ((x1_1) % 256) 128)] (fun k_ => (P0_ k_ ∨ w.heap.size ≤ k_)) (fun _ => False) rfl rfl ?aP (fun _ hk => hk.elim) ?aF ?aO ?aB ?aS ?aL ?_; (case aP => exact rfl); (case aB => exact (BU HB.out)); (case aF => exact (fun k_ hk => (.inr (Nat.le_trans (by first | exact HK.out.1 | exact (show Kept w _ (fun k_ => P0_ k_) from by repeat (first | (with_reducible first | exact HK.out | apply Kept.alloc | apply Kept.drewN | apply Kept.drew) | exact HK.out)).1) hk)))); (case aO => exact (RU HO_0.out)); (case aS => exact (below_size (BU HB.out))); (case aL => have := LMc4.out; omega); intro v109 w5 ho hb hg hat; rw [← Ny108.out] at ho; replace HB := Aside0.mk hb; replace HK := Aside0.mk (Kept.of_grown (S := (fun k_ => P0_ k_)) hg (by repeat (first | (with_reducible first | exact HK.out | apply Kept.alloc | apply Kept.drewN | apply Kept.drew) | exact HK.out)) (fun k_ e_ => (HO_0.out.1 k_ e_))); have HO110 := Aside0.mk ho; clear HO_0; clear ho hb hg hat))
     go_roundg k1
     case measure => have := HK1.out; omega
     case rel => exact ⟨(y108), (x1_1 / 128), EB, H', ⟨by have := HK1.out; omega⟩, ⟨RU HO110.out⟩, ⟨by repeat (first | (with_reducible first | exact HK.out | apply Kept.alloc | apply Kept.drewN | apply Kept.drew) | exact HK.out)⟩, ⟨BU HB.out⟩⟩
    ·rw [if_neg c4] at H; exact absurd H (by simp)
   ·rw [if_neg c3] at H; have c3b0 : decide (128 ≤ x1_1) = false := decide_eq_false c3; clear c3
    by_cases c6 : x0_1.length < 140737488355328
    ·rw [if_pos c6] at H; have LMc6 := Aside0.mk c6; clear c6
     obtain ⟨y111, hy111⟩ : ∃ y_ : List Int, y_ = (x0_1 ++ [(x1_1) % 256]) := ⟨_, rfl⟩
     replace H : (some y111) = some r := HY hy111 H; have Ny111 := Aside0.mk hy111; clear hy111; obtain rfl := Option.some.inj H
     go_wp2_with (first | ((with_reducible refine gate_builtin (b := .append) (xs := #[.tmp 15, .tmp 18]) rfl ?_); at_builtin; refine Kd.R_append (Kd.int .u8) (w0 := w0) w0.heap.size rfl (.tmp 15) (.tmp 18) 25 5 (.int .u8 0) 1 rfl Tryz.underlying25 info5 rfl (by decide) (by omega) u0 x0_1 ((x1_1) % 256) [.int .u8 ((x1_1) % 256)] (fun k_ => (P0_ k_ ∨ w.heap.size ≤ k_)) (fun _ => False) rfl rfl ?aP (fun _ hk => hk.elim) ?aF ?aO ?aB ?aS ?aL ?_; (case aP => exact rfl); (case aB => exact (BU HB.out)); (case aF => exact (fun k_ hk => (.inr (Nat.le_trans (by first | exact HK.out.1 | exact (show Kept w _ (fun k_ => P0_ k_) from by repeat (first | (with_reducible first | exact HK.out | apply Kept.alloc | apply Kept.drewN | apply Kept.drew) | exact HK.out)).1) hk)))); (case aO => exact (RU HO_0.out)); (case aS => exact (below_size (BU HB.out))); (case aL => have := LMc6.out; omega); intro v112 w7 ho hb hg hat; rw [← Ny111.out] at ho; replace HB := Aside0.mk hb; replace HK := Aside0.mk (Kept.of_grown (S := (fun k_ => P0_ k_)) hg (by repeat (first | (with_reducible first | exact HK.out | apply Kept.alloc | apply Kept.drewN | apply Kept.drew) | exact HK.out)) (fun k_ e_ => (HO_0.out.1 k_ e_))); have HO113 := Aside0.mk ho; clear HO_0; clear ho hb hg hat))
     go_ret
     exact ⟨_, ER, RU HO113.out, BU HB.out, by repeat (first | (with_reducible first | exact HK.out | apply Kept.alloc | apply Kept.drewN | apply Kept.drew) | exact HK.out)⟩
    ·rw [if_neg c6] at H; exact absurd H (by simp)

/-! ### num_Zig: function 70 -/
def num_Zig.f (a0 : Int) : Option (Int) := some (Go.bits .xor .u64 (IntKind.u64.wrap ((IntKind.u64.wrap (a0)) * 2)) (IntKind.u64.wrap (a0 / 9223372036854775808)))
set_option maxHeartbeats 8000000 in
set_option maxRecDepth 100000 in
theorem num_Zig.calls (a0 : Int) (r : Int) (w : World) (h : num_Zig.f a0 = some r) :
  Calls Tryz.prog 70 #[.int .i64 a0] w fun e w' => e = .returned (.int .u64 r) ∧ Drawn0 w w' := by
 have H : (some (Go.bits .xor .u64 (IntKind.u64.wrap ((IntKind.u64.wrap (a0)) * 2)) (IntKind.u64.wrap (a0 / 9223372036854775808)))) = some r := h; clear h; obtain rfl := Option.some.inj H; go_enter Tryz.func70, Tryz.ntmps70; go_wp2
 go_ret
 exact ⟨EB, DR⟩

/-! ### plain_Put: function 43 -/
def plain_Put.l0 : Nat → List Int → List Int → Int → Int → Option (List Int × Int)
 | 0, _, _, _, _ => none
 | k + 1, x4, x10, x11, x12 => if x12 < x11 then (if 0 ≤ x12 then (if x12 < (x10.length : Int) then ((num_Zig.f (rd x10 x12)).bind fun t115 => ((num_PutVar.f k x4 t115).bind fun t116 => (plain_Put.l0 k t116 x10 x11 (wrap64 (x12 + 1))))) else (none)) else (none)) else (some (x4, 0))
def plain_Put.f (k : Nat) (l0 : List Int) : Option (List Int × Int) := if (l0.length : Int) > 65536 then (some (([] : List Int), 12)) else (plain_Put.l0 k ([] : List Int) l0 (l0.length : Int) 0)
set_option maxHeartbeats 8000000 in
set_option maxRecDepth 100000 in
theorem plain_Put.calls (k : Nat) (A0 : Option Addr) (c0 : Nat) (l0 : List Int) (r1 : List Int) (r2 : Int) (w : World) (hr0 : Kd.C (Kd.int .i64) w A0 l0.length l0) (hc0 : l0.length ≤ c0) (h : plain_Put.f k l0 = some (r1, r2)) :
  Calls Tryz.prog 43 #[.slice A0 l0.length c0] w fun e w' => ∃ v0_ : Value, e = .returned (.tuple #[v0_, .int .i64 r2]) ∧ Kd.R (Kd.int .u8) 5 w' w.heap.size (fun _ => True) v0_ r1 ∧ Below w.heap.size w w' := by
 have HR0 := Aside0.mk hr0; have HC0 := Aside0.mk hc0; clear hr0 hc0; have HB := Aside0.mk (Below.refl w.heap.size w); have H : (if (l0.length : Int) > 65536 then (some (([] : List Int), 12)) else (plain_Put.l0 k ([] : List Int) l0 (l0.length : Int) 0)) = some (r1, r2) := h; clear h
 by_cases c2 : (l0.length : Int) > 65536
 ·rw [if_pos c2] at H; have c2b0 : decide (65536 < (l0.length : Int)) = true := decide_eq_true c2; have c2b1 : decide (65536 < l0.length) = true := decide_eq_true (by omega); clear c2; simp only [Option.some.injEq, Prod.mk.injEq] at H; obtain ⟨rfl, rfl⟩ := H; go_enter Tryz.func43, Tryz.ntmps43; go_wp2
  go_ret2
  exact ⟨_, ER, by first | exact Kd.R_nil _ _ _ _ _ | exact Kd.N_nil _ _ _ _ _ | exact Kd.V_nil _ _ _ _ _ | exact Kd.Q_nil _ _ _ _ _ | exact Kd.S_nil _ _ _ _ _, BU HB.out⟩
 ·rw [if_neg c2] at H; have c2b0 : decide (65536 < (l0.length : Int)) = false := decide_eq_false c2; have c2b1 : decide (65536 < l0.length) = false := decide_eq_false (by omega); clear c2; have H' := Aside0.mk H; clear H; go_enter Tryz.func43, Tryz.ntmps43; go_wp2
  go_loopg [4, 12] k (fun kq v4 v12 w' => ∃ (x4_1 : List Int) (x12_1 : Int), v12 = .int .i64 x12_1 ∧ Aside0 (plain_Put.l0 kq x4_1 l0 (l0.length : Int) x12_1 = some (r1, r2)) ∧ Aside0 (kq ≤ k) ∧ Aside0 (Kd.R (Kd.int .u8) 5 w' w.heap.size (fun _ => True) v4 x4_1) ∧ Aside0 (Below w.heap.size w w'))
  case atStart => exact ⟨(([] : List Int)), (0), EB, H', ⟨Nat.le_refl _⟩, ⟨by first | exact Kd.R_nil _ _ _ _ _ | exact Kd.N_nil _ _ _ _ _ | exact Kd.V_nil _ _ _ _ _ | exact Kd.Q_nil _ _ _ _ _ | exact Kd.S_nil _ _ _ _ _⟩, ⟨BU HB.out⟩⟩
  case round =>
   clear H'; (try clear c2); (try clear c2b0); (try clear c2b1); (try clear p2); obtain ⟨x4_1, x12_1, rfl, HA, HK1, HO_4, HB⟩ := hrel
   cases gk with
   | zero => exact absurd HA.out (by simp [plain_Put.l0])
   | succ k1 =>
    have H := HA.out; clear HA; simp only [plain_Put.l0] at H
    by_cases c3 : x12_1 < (l0.length : Int)
    ·rw [if_pos c3] at H; have c3b0 := decide_eq_true c3; clear c3
     by_cases c4 : 0 ≤ x12_1
     ·rw [if_pos c4] at H; have c4b0 := decide_eq_true c4; clear c4
      by_cases c5 : x12_1 < (l0.length : Int)
      ·rw [if_pos c5] at H; have c5b0 := decide_eq_true c5; clear c5; replace H := Option.bind_eq_some_iff.mp H; obtain ⟨t115, A60, H⟩ := H; (try dsimp only at H); have A6 := Aside0.mk A60; clear A60; replace H := Option.bind_eq_some_iff.mp H; obtain ⟨t116, A70, H⟩ := H; (try dsimp only at H); have A7 := Aside0.mk A70; clear A70; have H' := Aside0.mk H; clear H; have p114 : 0 ≤ (x12_1 : Int) := OD; have q114 : x12_1 < (l0.length : Int) := OD; obtain ⟨ad114, e114, hx114_0⟩ := Kd.at_int HR0.out x12_1 p114 q114
       cases e114
       replace hx114_0 := (HB.out.cell (World.block_lt_of_cell? w _ hx114_0)).trans hx114_0; replace p114 := eq_true p114; replace q114 := eq_true q114
       go_wp2_with (first | (go_at_call 70; (with_reducible refine (num_Zig.calls (rd l0 x12_1) t115 _ A6.out).mono ?_); rintro e w' ⟨rfl, ⟨nd, rfl⟩⟩; obtain ⟨Ao8, co8, eo8⟩ := Kd.R_slice HO_4.out; subst eo8) | (go_at_call 59; (with_reducible refine (num_PutVar.calls k1 (fun k_ => some k_ = (.slice Ao8 x4_1.length co8 : Value).ownBlock) (.slice Ao8 x4_1.length co8) x4_1 t115 t116 w _ ?side1 ?side2 A7.out).mono ?_); (case side1 => exact BU HB.out); (case side2 => exact Kd.R_tight rfl HO_4.out); rintro e w9 ⟨v117, rfl, ho0, hb, hkp⟩; have HO118 := Aside0.mk (Kd.R_mono (ok' := fun k_ => True) ho0 (fun k_ hk_ => trivial)); replace HB := Aside0.mk hb; clear HO_4; (try clear hb); (try clear hkp); (try clear ho0)))
       go_roundg k1
       case measure => have := HK1.out; omega
       case rel => exact ⟨(t116), (wrap64 (x12_1 + 1)), EB, H', ⟨by have := HK1.out; omega⟩, ⟨RU HO118.out⟩, ⟨BU HB.out⟩⟩
      ·rw [if_neg c5] at H; exact absurd H (by simp)
     ·rw [if_neg c4] at H; exact absurd H (by simp)
    ·rw [if_neg c3] at H; have c3b0 := decide_eq_false c3; clear c3; simp only [Option.some.injEq, Prod.mk.injEq] at H; obtain ⟨rfl, rfl⟩ := H; go_wp2
     go_ret2
     exact ⟨_, ER, RU HO_4.out, BU HB.out⟩

end Go.Proofs.YtehbkhddbdgbcaaGreatDoor.PChunkBack
