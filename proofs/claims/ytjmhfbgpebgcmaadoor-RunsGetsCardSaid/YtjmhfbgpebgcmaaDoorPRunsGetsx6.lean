/- WRITTEN BY A PROGRAM of this session (wip/tool: a turned copy of the printer), out of the translation: Lean functions with the answers of the Go functions, and the proofs that the Go code comes to them. -/
import Derived.Test.YtjmhfbgpebgcmaaDoorPRunsGetsx0
import Derived.Test.YtjmhfbgpebgcmaaDoorPRunsGetsx1
import Derived.Test.YtjmhfbgpebgcmaaDoorPRunsGetsx2
import Derived.Test.YtjmhfbgpebgcmaaDoorPRunsGetsx4
import Derived.Test.YtjmhfbgpebgcmaaDoorPRunsGetsx5
namespace Go.Proofs.YtjmhfbgpebgcmaaDoor.PRunsGets
open Go.RowKit Go.Proofs.YtjmhfbgpebgcmaaDoorW.PrintWords Go.Proofs.YtjmhfbgpebgcmaaDoorW.PrintLast Go.Proofs.YtjmhfbgpebgcmaaDoorW.PrintMore
attribute [local go_sem] max2_int min2_int max_two min_two max_three min_three max_four min_four   -- for this text's walks alone
set_option linter.unusedVariables false
set_option linter.unusedSimpArgs false

/-! ### estreatref09_Get: function 42 -/
mutual
def estreatref09_Get.j0 : Nat → List Int → Int → Bool → Option (List Int × Int)
  | 0, _, _, _ => none
  | k + 1, x0, x1, x18 => if x18 = true then (some (([] : List Int), 1)) else (estreatref09_Get.l0 k x1 ([] : List Int) x0 0 0 0)
def estreatref09_Get.l0 : Nat → Int → List Int → List Int → Int → Int → Int → Option (List Int × Int)
  | 0, _, _, _, _, _, _ => none
  | k + 1, x1, x7, x156000, x156001, x156002, x156003 => if (x7.length : Int) < x1 then ((estreatref01_Reader_Var.f k x156000 x156001 x156002 x156003).bind fun bt161 => ((estreatref01_Reader_Var.f k x156000 bt161.2.1 bt161.2.2.1 bt161.2.2.2).bind fun bt165 => ((estreatref01_Zag.f bt165.1).bind fun t169 => (if bt165.2.2.1 = 0 then (if bt161.1 ≥ (IntKind.u64.wrap (x1)) then (estreatref09_Get.j2 k x1 x7 bt161.1 t169 true x156000 bt165.2.1 bt165.2.2.1 bt165.2.2.2) else (estreatref09_Get.j2 k x1 x7 bt161.1 t169 (decide ((wrap64 ((wrap64 ((x7.length : Int) + (wrap64 (bt161.1)))) + 1)) > x1)) x156000 bt165.2.1 bt165.2.2.1 bt165.2.2.2)) else (some (([] : List Int), bt165.2.2.1)))))) else ((estreatref01_Reader_End.f x156000 x156001 x156002 x156003).bind fun bt156 => (if bt156.1 = 0 then (some (x7, 0)) else (some (([] : List Int), bt156.1))))
def estreatref09_Get.j2 : Nat → Int → List Int → Int → Int → Bool → List Int → Int → Int → Int → Option (List Int × Int)
  | 0, _, _, _, _, _, _, _, _, _ => none
  | k + 1, x1, x7, x8, x9, x53, x156000, x156001, x156002, x156003 => if x53 = true then (some (([] : List Int), 5)) else (if (x7.length : Int) > 0 then (if 0 ≤ (wrap64 ((x7.length : Int) - 1)) then (if (wrap64 ((x7.length : Int) - 1)) < (x7.length : Int) then (estreatref09_Get.j3 k x1 x7 x8 x9 ((rd x7 (wrap64 ((x7.length : Int) - 1))) == x9) x156000 x156001 x156002 x156003) else (none)) else (none)) else (estreatref09_Get.j3 k x1 x7 x8 x9 false x156000 x156001 x156002 x156003))
def estreatref09_Get.j3 : Nat → Int → List Int → Int → Int → Bool → List Int → Int → Int → Int → Option (List Int × Int)
  | 0, _, _, _, _, _, _, _, _, _ => none
  | k + 1, x1, x7, x8, x9, x66, x156000, x156001, x156002, x156003 => if x66 = true then (some (([] : List Int), 4)) else (estreatref09_Get.l1 k x1 x7 x8 x9 0 x156000 x156001 x156002 x156003)
def estreatref09_Get.l1 : Nat → Int → List Int → Int → Int → Int → List Int → Int → Int → Int → Option (List Int × Int)
  | 0, _, _, _, _, _, _, _, _, _ => none
  | k + 1, x1, x7, x8, x9, x10, x156000, x156001, x156002, x156003 => if x10 ≤ (wrap64 (x8)) then (if x7.length < 17592186044416 then (estreatref09_Get.l1 k x1 (x7 ++ [x9]) x8 x9 (wrap64 (x10 + 1)) x156000 x156001 x156002 x156003) else (none)) else (estreatref09_Get.l0 k x1 x7 x156000 x156001 x156002 x156003)
end
def estreatref09_Get.f (k : Nat) (l0 : List Int) (a1 : Int) : Option (List Int × Int) := if a1 < 0 then (estreatref09_Get.j0 k l0 a1 true) else (estreatref09_Get.j0 k l0 a1 (decide (a1 > 65536)))
theorem estreatref09_Get.mono_l : ∀ k, (∀ y0 y1 y2, LeO (estreatref09_Get.j0 k y0 y1 y2) (estreatref09_Get.j0 (k + 1) y0 y1 y2)) ∧ (∀ y0 y1 y2 y3 y4 y5, LeO (estreatref09_Get.l0 k y0 y1 y2 y3 y4 y5) (estreatref09_Get.l0 (k + 1) y0 y1 y2 y3 y4 y5)) ∧ (∀ y0 y1 y2 y3 y4 y5 y6 y7 y8, LeO (estreatref09_Get.j2 k y0 y1 y2 y3 y4 y5 y6 y7 y8) (estreatref09_Get.j2 (k + 1) y0 y1 y2 y3 y4 y5 y6 y7 y8)) ∧ (∀ y0 y1 y2 y3 y4 y5 y6 y7 y8, LeO (estreatref09_Get.j3 k y0 y1 y2 y3 y4 y5 y6 y7 y8) (estreatref09_Get.j3 (k + 1) y0 y1 y2 y3 y4 y5 y6 y7 y8)) ∧ (∀ y0 y1 y2 y3 y4 y5 y6 y7 y8, LeO (estreatref09_Get.l1 k y0 y1 y2 y3 y4 y5 y6 y7 y8) (estreatref09_Get.l1 (k + 1) y0 y1 y2 y3 y4 y5 y6 y7 y8))
  | 0 => ⟨fun _ _ _ r h => by simp [estreatref09_Get.j0] at h, fun _ _ _ _ _ _ r h => by simp [estreatref09_Get.l0] at h, fun _ _ _ _ _ _ _ _ _ r h => by simp [estreatref09_Get.j2] at h, fun _ _ _ _ _ _ _ _ _ r h => by simp [estreatref09_Get.j3] at h, fun _ _ _ _ _ _ _ _ _ r h => by simp [estreatref09_Get.l1] at h⟩
  | k + 1 => by
    obtain ⟨ih0, ih1, ih2, ih3, ih4⟩ := estreatref09_Get.mono_l k
    refine ⟨?_, ?_, ?_, ?_, ?_⟩
    · intro y0 y1 y2
      unfold estreatref09_Get.j0
      repeat' first
      | (with_reducible exact ih0 _ _ _)
      | (with_reducible exact ih1 _ _ _ _ _ _)
      | (with_reducible exact ih2 _ _ _ _ _ _ _ _ _)
      | (with_reducible exact ih3 _ _ _ _ _ _ _ _ _)
      | (with_reducible exact ih4 _ _ _ _ _ _ _ _ _)
      | (with_reducible exact estreatref01_Reader_Var.mono _ _ _ _ _)
      | (with_reducible exact LeO.refl _)
      | (with_reducible exact LeO.none _)
      | (with_reducible refine LeO.ite ?_ ?_)
      | (with_reducible refine LeO.bind ?_ (fun _ => ?_))
      | exact ih0 _ _ _
      | exact ih1 _ _ _ _ _ _
      | exact ih2 _ _ _ _ _ _ _ _ _
      | exact ih3 _ _ _ _ _ _ _ _ _
      | exact ih4 _ _ _ _ _ _ _ _ _
      | exact estreatref01_Reader_Var.mono _ _ _ _ _
      | exact LeO.none _
      | refine LeO.ite ?_ ?_
      | refine LeO.bind ?_ (fun _ => ?_)
    · intro y0 y1 y2 y3 y4 y5
      unfold estreatref09_Get.l0
      repeat' first
      | (with_reducible exact ih0 _ _ _)
      | (with_reducible exact ih1 _ _ _ _ _ _)
      | (with_reducible exact ih2 _ _ _ _ _ _ _ _ _)
      | (with_reducible exact ih3 _ _ _ _ _ _ _ _ _)
      | (with_reducible exact ih4 _ _ _ _ _ _ _ _ _)
      | (with_reducible exact estreatref01_Reader_Var.mono _ _ _ _ _)
      | (with_reducible exact LeO.refl _)
      | (with_reducible exact LeO.none _)
      | (with_reducible refine LeO.ite ?_ ?_)
      | (with_reducible refine LeO.bind ?_ (fun _ => ?_))
      | exact ih0 _ _ _
      | exact ih1 _ _ _ _ _ _
      | exact ih2 _ _ _ _ _ _ _ _ _
      | exact ih3 _ _ _ _ _ _ _ _ _
      | exact ih4 _ _ _ _ _ _ _ _ _
      | exact estreatref01_Reader_Var.mono _ _ _ _ _
      | exact LeO.none _
      | refine LeO.ite ?_ ?_
      | refine LeO.bind ?_ (fun _ => ?_)
    · intro y0 y1 y2 y3 y4 y5 y6 y7 y8
      unfold estreatref09_Get.j2
      repeat' first
      | (with_reducible exact ih0 _ _ _)
      | (with_reducible exact ih1 _ _ _ _ _ _)
      | (with_reducible exact ih2 _ _ _ _ _ _ _ _ _)
      | (with_reducible exact ih3 _ _ _ _ _ _ _ _ _)
      | (with_reducible exact ih4 _ _ _ _ _ _ _ _ _)
      | (with_reducible exact estreatref01_Reader_Var.mono _ _ _ _ _)
      | (with_reducible exact LeO.refl _)
      | (with_reducible exact LeO.none _)
      | (with_reducible refine LeO.ite ?_ ?_)
      | (with_reducible refine LeO.bind ?_ (fun _ => ?_))
      | exact ih0 _ _ _
      | exact ih1 _ _ _ _ _ _
      | exact ih2 _ _ _ _ _ _ _ _ _
      | exact ih3 _ _ _ _ _ _ _ _ _
      | exact ih4 _ _ _ _ _ _ _ _ _
      | exact estreatref01_Reader_Var.mono _ _ _ _ _
      | exact LeO.none _
      | refine LeO.ite ?_ ?_
      | refine LeO.bind ?_ (fun _ => ?_)
    · intro y0 y1 y2 y3 y4 y5 y6 y7 y8
      unfold estreatref09_Get.j3
      repeat' first
      | (with_reducible exact ih0 _ _ _)
      | (with_reducible exact ih1 _ _ _ _ _ _)
      | (with_reducible exact ih2 _ _ _ _ _ _ _ _ _)
      | (with_reducible exact ih3 _ _ _ _ _ _ _ _ _)
      | (with_reducible exact ih4 _ _ _ _ _ _ _ _ _)
      | (with_reducible exact estreatref01_Reader_Var.mono _ _ _ _ _)
      | (with_reducible exact LeO.refl _)
      | (with_reducible exact LeO.none _)
      | (with_reducible refine LeO.ite ?_ ?_)
      | (with_reducible refine LeO.bind ?_ (fun _ => ?_))
      | exact ih0 _ _ _
      | exact ih1 _ _ _ _ _ _
      | exact ih2 _ _ _ _ _ _ _ _ _
      | exact ih3 _ _ _ _ _ _ _ _ _
      | exact ih4 _ _ _ _ _ _ _ _ _
      | exact estreatref01_Reader_Var.mono _ _ _ _ _
      | exact LeO.none _
      | refine LeO.ite ?_ ?_
      | refine LeO.bind ?_ (fun _ => ?_)
    · intro y0 y1 y2 y3 y4 y5 y6 y7 y8
      unfold estreatref09_Get.l1
      repeat' first
      | (with_reducible exact ih0 _ _ _)
      | (with_reducible exact ih1 _ _ _ _ _ _)
      | (with_reducible exact ih2 _ _ _ _ _ _ _ _ _)
      | (with_reducible exact ih3 _ _ _ _ _ _ _ _ _)
      | (with_reducible exact ih4 _ _ _ _ _ _ _ _ _)
      | (with_reducible exact estreatref01_Reader_Var.mono _ _ _ _ _)
      | (with_reducible exact LeO.refl _)
      | (with_reducible exact LeO.none _)
      | (with_reducible refine LeO.ite ?_ ?_)
      | (with_reducible refine LeO.bind ?_ (fun _ => ?_))
      | exact ih0 _ _ _
      | exact ih1 _ _ _ _ _ _
      | exact ih2 _ _ _ _ _ _ _ _ _
      | exact ih3 _ _ _ _ _ _ _ _ _
      | exact ih4 _ _ _ _ _ _ _ _ _
      | exact estreatref01_Reader_Var.mono _ _ _ _ _
      | exact LeO.none _
      | refine LeO.ite ?_ ?_
      | refine LeO.bind ?_ (fun _ => ?_)
theorem estreatref09_Get.mono : ∀ a0 a1 k, LeO (estreatref09_Get.f k a0 a1) (estreatref09_Get.f (k + 1) a0 a1) := by
  intro a0 a1 k
  obtain ⟨ih0, ih1, ih2, ih3, ih4⟩ := estreatref09_Get.mono_l k
  unfold estreatref09_Get.f
  repeat' first
      | (with_reducible exact ih0 _ _ _)
      | (with_reducible exact ih1 _ _ _ _ _ _)
      | (with_reducible exact ih2 _ _ _ _ _ _ _ _ _)
      | (with_reducible exact ih3 _ _ _ _ _ _ _ _ _)
      | (with_reducible exact ih4 _ _ _ _ _ _ _ _ _)
      | (with_reducible exact estreatref01_Reader_Var.mono _ _ _ _ _)
      | (with_reducible exact LeO.refl _)
      | (with_reducible exact LeO.none _)
      | (with_reducible refine LeO.ite ?_ ?_)
      | (with_reducible refine LeO.bind ?_ (fun _ => ?_))
      | exact ih0 _ _ _
      | exact ih1 _ _ _ _ _ _
      | exact ih2 _ _ _ _ _ _ _ _ _
      | exact ih3 _ _ _ _ _ _ _ _ _
      | exact ih4 _ _ _ _ _ _ _ _ _
      | exact estreatref01_Reader_Var.mono _ _ _ _ _
      | exact LeO.none _
      | refine LeO.ite ?_ ?_
      | refine LeO.bind ?_ (fun _ => ?_)
set_option maxHeartbeats 8000000 in
set_option maxRecDepth 100000 in
theorem estreatref09_Get.calls (k : Nat) (A0 : Option Addr) (c0 : Nat) (l0 : List Int) (a1 : Int) (r1 : List Int) (r2 : Int) (w : World) (hr0 : Kd.C (Kd.int .u8) w A0 l0.length l0) (hc0 : l0.length ≤ c0) (h : estreatref09_Get.f k l0 a1 = some (r1, r2)) :
    Calls Tryd.prog 42 #[.slice A0 l0.length c0, .int .i64 a1] w fun e w' => ∃ v0_ : Value, e = .returned (.tuple #[v0_, .int .i64 r2]) ∧ Kd.R (Kd.int .i64) 2 w' w.heap.size (fun _ => True) v0_ r1 ∧ Below w.heap.size w w' := by
  have hu47 := Tryd.underlying47
  have HR0 := Aside0.mk hr0
  have HC0 := Aside0.mk hc0
  clear hr0 hc0
  have HB := Aside0.mk (Below.refl w.heap.size w)
  have H : (if a1 < 0 then (estreatref09_Get.j0 k l0 a1 true) else (estreatref09_Get.j0 k l0 a1 (decide (a1 > 65536)))) = some (r1, r2) := h
  clear h
  have HC3 := Aside0.mk H
  clear H
  go_enter Tryd.func42, Tryd.ntmps42
  go_upto_region 1 with (fail)
  repeat (go_quiet (fail); go_upto_region 1 with (fail))
  go_cut [18] (fun v18 wc => ∃ (kq : Nat) (x18_2 : Bool), v18 = .bool x18_2 ∧ Aside0 (estreatref09_Get.j0 kq l0 a1 x18_2 = some (r1, r2)) ∧ Aside0 (kq ≤ k) ∧ Aside0 (Below w.heap.size w wc))
  case first =>
    have H := HC3.out
    clear HC3
    by_cases c4 : a1 < 0
    · rw [if_pos c4] at H
      have c4b0 : decide (a1 < 0) = true := decide_eq_true c4
      clear c4
      (first | rw [c4b0] | (simp only [i64_w, i32_w]; rw [c4b0]) | skip)
      have H' := Aside0.mk H
      clear H
      go_wp2
      repeat (go_quiet (fail); try go_wp2)
      go_meet
      case rel => exact ⟨_, (true), (by first | rfl | (simp; done) | (simp [*]; done)), H', ⟨by first | omega | exact Nat.le_refl _⟩, ⟨by repeat (first | (with_reducible first | exact HB.out | apply below_alloc | apply pw_below_drewN | apply below_drew1) | exact HB.out)⟩⟩
    · rw [if_neg c4] at H
      have c4b0 : decide (a1 < 0) = false := decide_eq_false c4
      clear c4
      (first | rw [c4b0] | (simp only [i64_w, i32_w]; rw [c4b0]) | skip)
      have H' := Aside0.mk H
      clear H
      go_wp2
      repeat (go_quiet (fail); try go_wp2)
      go_meet
      case rel => exact ⟨_, (decide (a1 > 65536)), (by first | rfl | (simp; done) | (simp [*]; done)), H', ⟨by first | omega | exact Nat.le_refl _⟩, ⟨by repeat (first | (with_reducible first | exact HB.out | apply below_alloc | apply pw_below_drewN | apply below_drew1) | exact HB.out)⟩⟩
  case rest =>
    clear HC3
    try clear p2
    try clear c4
    try clear c4b0
    obtain ⟨kq, x18_2, rfl, HA, HJ2, HB⟩ := hcut
    cases kq with
    | zero => exact absurd HA.out (by simp [estreatref09_Get.j0])
    | succ kj2 =>
      have H := HA.out
      clear HA
      simp only [estreatref09_Get.j0] at H
      by_cases c5 : x18_2 = true
      · subst c5
        have H1 : (some (([] : List Int), 1)) = some (r1, r2) := by rw [if_pos rfl] at H; exact H
        clear H
        have H := H1
        clear H1
        simp only [Option.some.injEq, Prod.mk.injEq] at H
        obtain ⟨rfl, rfl⟩ := H
        go_wp2
        repeat (go_quiet (fail); try go_wp2)
        go_ret2
        exact ⟨_, by first | rfl | (simp [errW_none, errW_some] <;> rfl) | (simp [*, errW_none, errW_some] <;> rfl), by first | exact Kd.R_nil _ _ _ _ _ | exact Kd.N_nil _ _ _ _ _ | exact Kd.V_nil _ _ _ _ _ | exact Kd.Q_nil _ _ _ _ _ | exact Kd.S_nil _ _ _ _ _, by repeat (first | (with_reducible first | exact HB.out | apply below_alloc | apply pw_below_drewN | apply below_drew1) | exact HB.out)⟩
      · replace c5 := Bool.eq_false_iff.mpr c5
        subst c5
        have H1 : (estreatref09_Get.l0 kj2 a1 ([] : List Int) l0 0 0 0) = some (r1, r2) := by rw [if_neg (show ¬ (false = true) by decide)] at H; exact H
        clear H
        have H := H1
        clear H1
        have H' := Aside0.mk H
        clear H
        go_wp2_with (first | ((with_reducible refine gate_dst (N := 21) rfl ?_); (try (refine gate_guard (by rfl) ?_; dsimp only)); refine box_event ?hg (N := 21) ?hd (cs := #[.slice A0 l0.length c0, .int .i64 0, .int .i64 0, .int .i64 0]) (t := 47) ?hr ?_; (case hd => rfl); (case hg => rfl); (case hr => first | (go_simp; done) | (go_simp; rfl)); intro gb155 hg w6 hbox hb; have n0_ := Aside0.mk (below_step (by repeat (first | (with_reducible first | exact HB.out | apply below_alloc | apply pw_below_drewN | apply below_drew1) | exact HB.out)) hb); have n1_ := Aside0.mk ((show IsS47 w w6 gb155 l0 0 0 0 from ⟨_, _, hbox, (by rw [hg]; exact (below_size (by repeat (first | (with_reducible first | exact HB.out | apply below_alloc | apply pw_below_drewN | apply below_drew1) | exact HB.out))) : w.heap.size ≤ gb155), HR0.out, HC0.out⟩)); have n2_ := Aside0.mk ((by rw [hg]; exact (below_size (by repeat (first | (with_reducible first | exact HB.out | apply below_alloc | apply pw_below_drewN | apply below_drew1) | exact HB.out))) : w.heap.size ≤ gb155)); have n3_ := Aside0.mk ((by rw [hg]; exact (below_size (by repeat (first | (with_reducible first | exact HB.out | apply below_alloc | apply pw_below_drewN | apply below_drew1) | exact HB.out))) : w.heap.size ≤ gb155)); clear HB; have HB := n0_; have HI155 := n1_; have GW155 := n2_; have GE155 := n3_; clear n0_ n1_ n2_ n3_; clear hb hbox hg))
        repeat (go_quiet (first | ((with_reducible refine gate_dst (N := 21) rfl ?_); (try (refine gate_guard (by rfl) ?_; dsimp only)); refine box_event ?hg (N := 21) ?hd (cs := #[.slice A0 l0.length c0, .int .i64 0, .int .i64 0, .int .i64 0]) (t := 47) ?hr ?_; (case hd => rfl); (case hg => rfl); (case hr => first | (go_simp; done) | (go_simp; rfl)); intro gb155 hg w6 hbox hb; have n0_ := Aside0.mk (below_step (by repeat (first | (with_reducible first | exact HB.out | apply below_alloc | apply pw_below_drewN | apply below_drew1) | exact HB.out)) hb); have n1_ := Aside0.mk ((show IsS47 w w6 gb155 l0 0 0 0 from ⟨_, _, hbox, (by rw [hg]; exact (below_size (by repeat (first | (with_reducible first | exact HB.out | apply below_alloc | apply pw_below_drewN | apply below_drew1) | exact HB.out))) : w.heap.size ≤ gb155), HR0.out, HC0.out⟩)); have n2_ := Aside0.mk ((by rw [hg]; exact (below_size (by repeat (first | (with_reducible first | exact HB.out | apply below_alloc | apply pw_below_drewN | apply below_drew1) | exact HB.out))) : w.heap.size ≤ gb155)); have n3_ := Aside0.mk ((by rw [hg]; exact (below_size (by repeat (first | (with_reducible first | exact HB.out | apply below_alloc | apply pw_below_drewN | apply below_drew1) | exact HB.out))) : w.heap.size ≤ gb155)); clear HB; have HB := n0_; have HI155 := n1_; have GW155 := n2_; have GE155 := n3_; clear n0_ n1_ n2_ n3_; clear hb hbox hg)); try go_wp2_with (first | ((with_reducible refine gate_dst (N := 21) rfl ?_); (try (refine gate_guard (by rfl) ?_; dsimp only)); refine box_event ?hg (N := 21) ?hd (cs := #[.slice A0 l0.length c0, .int .i64 0, .int .i64 0, .int .i64 0]) (t := 47) ?hr ?_; (case hd => rfl); (case hg => rfl); (case hr => first | (go_simp; done) | (go_simp; rfl)); intro gb155 hg w6 hbox hb; have n0_ := Aside0.mk (below_step (by repeat (first | (with_reducible first | exact HB.out | apply below_alloc | apply pw_below_drewN | apply below_drew1) | exact HB.out)) hb); have n1_ := Aside0.mk ((show IsS47 w w6 gb155 l0 0 0 0 from ⟨_, _, hbox, (by rw [hg]; exact (below_size (by repeat (first | (with_reducible first | exact HB.out | apply below_alloc | apply pw_below_drewN | apply below_drew1) | exact HB.out))) : w.heap.size ≤ gb155), HR0.out, HC0.out⟩)); have n2_ := Aside0.mk ((by rw [hg]; exact (below_size (by repeat (first | (with_reducible first | exact HB.out | apply below_alloc | apply pw_below_drewN | apply below_drew1) | exact HB.out))) : w.heap.size ≤ gb155)); have n3_ := Aside0.mk ((by rw [hg]; exact (below_size (by repeat (first | (with_reducible first | exact HB.out | apply below_alloc | apply pw_below_drewN | apply below_drew1) | exact HB.out))) : w.heap.size ≤ gb155)); clear HB; have HB := n0_; have HI155 := n1_; have GW155 := n2_; have GE155 := n3_; clear n0_ n1_ n2_ n3_; clear hb hbox hg)))
        go_loopg [7] kj2 (fun kq v7 w' => ∃ (x7_2 : List Int) (x156001_2 : Int) (x156002_2 : Int) (x156003_2 : Int), Aside0 (estreatref09_Get.l0 kq a1 x7_2 l0 x156001_2 x156002_2 x156003_2 = some (r1, r2)) ∧ Aside0 (kq ≤ kj2) ∧ Aside0 (Kd.R (Kd.int .i64) 2 w' w.heap.size (fun _ => True) v7 x7_2) ∧ Aside0 (IsS47 w w' gb155 l0 x156001_2 x156002_2 x156003_2) ∧ Aside0 (Below w.heap.size w w'))
        case atStart => exact ⟨(([] : List Int)), (0), (0), (0), H', ⟨Nat.le_refl _⟩, ⟨by first | exact Kd.R_nil _ _ _ _ _ | exact Kd.N_nil _ _ _ _ _ | exact Kd.V_nil _ _ _ _ _ | exact Kd.Q_nil _ _ _ _ _ | exact Kd.S_nil _ _ _ _ _⟩, ⟨by repeat (first | (with_reducible first | exact HI155.out | apply IsS47.alloc | apply IsS47.drewN | apply IsS47.drew | apply IsS47.set_1 | apply IsS47.set_2 | apply IsS47.set_3) | exact HI155.out)⟩, ⟨by repeat (first | (with_reducible first | exact HB.out | apply below_alloc | apply pw_below_drewN | apply below_drew1 | refine below_set ?_ (IsS47.ge HI155.out)) | exact HB.out)⟩⟩
        case round =>
          clear H'
          try clear p2
          try clear c4
          try clear c4b0
          try clear c5
          try clear p2
          obtain ⟨x7_2, x156001_2, x156002_2, x156003_2, HA, HK2, HO_7, HI155, HB⟩ := hrel
          cases gk with
          | zero => exact absurd HA.out (by simp [estreatref09_Get.l0])
          | succ k2 =>
            have H := HA.out
            clear HA
            simp only [estreatref09_Get.l0] at H
            by_cases c7 : (x7_2.length : Int) < a1
            · rw [if_pos c7] at H
              have c7b0 : decide ((x7_2.length : Int) < a1) = true := decide_eq_true c7
              clear c7
              replace H := Option.bind_eq_some_iff.mp H
              obtain ⟨⟨t161, t162, t163, t164⟩, A80, H⟩ := H
              replace H : ((estreatref01_Reader_Var.f k2 l0 t162 t163 t164).bind fun bt165 => ((estreatref01_Zag.f bt165.1).bind fun t169 => (if bt165.2.2.1 = 0 then (if t161 ≥ (IntKind.u64.wrap (a1)) then (estreatref09_Get.j2 k2 a1 x7_2 t161 t169 true l0 bt165.2.1 bt165.2.2.1 bt165.2.2.2) else (estreatref09_Get.j2 k2 a1 x7_2 t161 t169 (decide ((wrap64 ((wrap64 ((x7_2.length : Int) + (wrap64 (t161)))) + 1)) > a1)) l0 bt165.2.1 bt165.2.2.1 bt165.2.2.2)) else (some (([] : List Int), bt165.2.2.1))))) = some (r1, r2) := H
              have A8 := Aside0.mk A80
              clear A80
              replace H := Option.bind_eq_some_iff.mp H
              obtain ⟨⟨t165, t166, t167, t168⟩, A90, H⟩ := H
              replace H : ((estreatref01_Zag.f t165).bind fun t169 => (if t167 = 0 then (if t161 ≥ (IntKind.u64.wrap (a1)) then (estreatref09_Get.j2 k2 a1 x7_2 t161 t169 true l0 t166 t167 t168) else (estreatref09_Get.j2 k2 a1 x7_2 t161 t169 (decide ((wrap64 ((wrap64 ((x7_2.length : Int) + (wrap64 (t161)))) + 1)) > a1)) l0 t166 t167 t168)) else (some (([] : List Int), t167)))) = some (r1, r2) := H
              have A9 := Aside0.mk A90
              clear A90
              replace H := Option.bind_eq_some_iff.mp H
              obtain ⟨t169, A100, H⟩ := H
              replace H : (if t167 = 0 then (if t161 ≥ (IntKind.u64.wrap (a1)) then (estreatref09_Get.j2 k2 a1 x7_2 t161 t169 true l0 t166 t167 t168) else (estreatref09_Get.j2 k2 a1 x7_2 t161 t169 (decide ((wrap64 ((wrap64 ((x7_2.length : Int) + (wrap64 (t161)))) + 1)) > a1)) l0 t166 t167 t168)) else (some (([] : List Int), t167))) = some (r1, r2) := H
              have A10 := Aside0.mk A100
              clear A100
              by_cases c11 : t167 = 0
              · rw [if_pos c11] at H
                have c11b0 : (t167 == 0) = true := beq_iff_eq.mpr c11
                have c11b1 : (t167 != 0) = false := bne_eq_false_iff_eq.mpr c11
                clear c11
                have HC12 := Aside0.mk H
                clear H
                obtain ⟨Ao13, co13, eo13⟩ := Kd.R_slice HO_7.out
                subst eo13
                go_upto_region 10 with (first | (go_at_call 28; (with_reducible refine (estreatref01_Reader_Var.calls k2 gb155 l0 x156001_2 x156002_2 x156003_2 t161 t162 t163 t164 w _ ?side1 ?side2 A8.out).mono ?_); (case side1 => repeat (first | (with_reducible first | exact HI155.out | apply IsS47.alloc | apply IsS47.drewN | apply IsS47.drew | apply IsS47.set_1 | apply IsS47.set_2 | apply IsS47.set_3) | exact HI155.out)); (case side2 => repeat (first | (with_reducible first | exact HB.out | apply below_alloc | apply pw_below_drewN | apply below_drew1 | refine below_set ?_ (IsS47.ge HI155.out)) | exact HB.out)); rintro e w14 ⟨rfl, hi, hb, hk⟩; have n0_ := Aside0.mk (Kd.R_mono (Kd.R_keep (IsS47.apart (show IsS47 w _ gb155 l0 x156001_2 x156002_2 x156003_2 from by repeat (first | (with_reducible first | exact HI155.out | apply IsS47.alloc | apply IsS47.drewN | apply IsS47.drew | apply IsS47.set_1 | apply IsS47.set_2 | apply IsS47.set_3) | exact HI155.out)) (by (with_reducible repeat (first | apply Kd.R_alloc | apply Kd.R_drewN | apply Kd.R_drew)); exact HO_7.out) (by decide)) hk (fun _ h => h.2)) (fun _ h => h.1)); have n1_ := Aside0.mk (hb); have n2_ := Aside0.mk (hi); clear HO_7; clear HB; clear HI155; have HO_7 := n0_; have HB := n1_; have HI155 := n2_; clear n0_ n1_ n2_; (try clear hb); (try clear hb2); (try clear hk); (try clear hi)) | (go_at_call 28; (with_reducible refine (estreatref01_Reader_Var.calls k2 gb155 l0 t162 t163 t164 t165 t166 t167 t168 w _ ?side1 ?side2 A9.out).mono ?_); (case side1 => repeat (first | (with_reducible first | exact HI155.out | apply IsS47.alloc | apply IsS47.drewN | apply IsS47.drew | apply IsS47.set_1 | apply IsS47.set_2 | apply IsS47.set_3) | exact HI155.out)); (case side2 => repeat (first | (with_reducible first | exact HB.out | apply below_alloc | apply pw_below_drewN | apply below_drew1 | refine below_set ?_ (IsS47.ge HI155.out)) | exact HB.out)); rintro e w15 ⟨rfl, hi, hb, hk⟩; have n0_ := Aside0.mk (Kd.R_mono (Kd.R_keep (IsS47.apart (show IsS47 w _ gb155 l0 t162 t163 t164 from by repeat (first | (with_reducible first | exact HI155.out | apply IsS47.alloc | apply IsS47.drewN | apply IsS47.drew | apply IsS47.set_1 | apply IsS47.set_2 | apply IsS47.set_3) | exact HI155.out)) (by (with_reducible repeat (first | apply Kd.R_alloc | apply Kd.R_drewN | apply Kd.R_drew)); exact HO_7.out) (by decide)) hk (fun _ h => h.2)) (fun _ h => h.1)); have n1_ := Aside0.mk (hb); have n2_ := Aside0.mk (hi); clear HO_7; clear HB; clear HI155; have HO_7 := n0_; have HB := n1_; have HI155 := n2_; clear n0_ n1_ n2_; (try clear hb); (try clear hb2); (try clear hk); (try clear hi)) | (go_at_call 53; (with_reducible refine (estreatref01_Zag.calls t165 t169 _ A10.out).mono ?_); rintro e w' ⟨rfl, ⟨nd, rfl⟩⟩; (try first | exact ⟨rfl, _, World.drewN_drewN _ _ _⟩ | exact ⟨rfl, _, Eq.trans (World.drewN_drewN _ _ _) (congrArg (World.drewN _) (Nat.add_assoc _ _ _))⟩); obtain ⟨ASz16_0, cSz16_0, HGz16, hgz16, HSz16_0⟩ := HI155.out; have hcz16_0 := cellS47_0 HGz16; have hcz16_1 := cellS47_1 HGz16; have hcz16_2 := cellS47_2 HGz16; have hcz16_3 := cellS47_3 HGz16; have hfz16_1 := blk_frozen HGz16 1; have hfz16_2 := blk_frozen HGz16 2; have hfz16_3 := blk_frozen HGz16 3; clear HGz16 hgz16))
                repeat (go_quiet (first | (go_at_call 28; (with_reducible refine (estreatref01_Reader_Var.calls k2 gb155 l0 x156001_2 x156002_2 x156003_2 t161 t162 t163 t164 w _ ?side1 ?side2 A8.out).mono ?_); (case side1 => repeat (first | (with_reducible first | exact HI155.out | apply IsS47.alloc | apply IsS47.drewN | apply IsS47.drew | apply IsS47.set_1 | apply IsS47.set_2 | apply IsS47.set_3) | exact HI155.out)); (case side2 => repeat (first | (with_reducible first | exact HB.out | apply below_alloc | apply pw_below_drewN | apply below_drew1 | refine below_set ?_ (IsS47.ge HI155.out)) | exact HB.out)); rintro e w14 ⟨rfl, hi, hb, hk⟩; have n0_ := Aside0.mk (Kd.R_mono (Kd.R_keep (IsS47.apart (show IsS47 w _ gb155 l0 x156001_2 x156002_2 x156003_2 from by repeat (first | (with_reducible first | exact HI155.out | apply IsS47.alloc | apply IsS47.drewN | apply IsS47.drew | apply IsS47.set_1 | apply IsS47.set_2 | apply IsS47.set_3) | exact HI155.out)) (by (with_reducible repeat (first | apply Kd.R_alloc | apply Kd.R_drewN | apply Kd.R_drew)); exact HO_7.out) (by decide)) hk (fun _ h => h.2)) (fun _ h => h.1)); have n1_ := Aside0.mk (hb); have n2_ := Aside0.mk (hi); clear HO_7; clear HB; clear HI155; have HO_7 := n0_; have HB := n1_; have HI155 := n2_; clear n0_ n1_ n2_; (try clear hb); (try clear hb2); (try clear hk); (try clear hi)) | (go_at_call 28; (with_reducible refine (estreatref01_Reader_Var.calls k2 gb155 l0 t162 t163 t164 t165 t166 t167 t168 w _ ?side1 ?side2 A9.out).mono ?_); (case side1 => repeat (first | (with_reducible first | exact HI155.out | apply IsS47.alloc | apply IsS47.drewN | apply IsS47.drew | apply IsS47.set_1 | apply IsS47.set_2 | apply IsS47.set_3) | exact HI155.out)); (case side2 => repeat (first | (with_reducible first | exact HB.out | apply below_alloc | apply pw_below_drewN | apply below_drew1 | refine below_set ?_ (IsS47.ge HI155.out)) | exact HB.out)); rintro e w15 ⟨rfl, hi, hb, hk⟩; have n0_ := Aside0.mk (Kd.R_mono (Kd.R_keep (IsS47.apart (show IsS47 w _ gb155 l0 t162 t163 t164 from by repeat (first | (with_reducible first | exact HI155.out | apply IsS47.alloc | apply IsS47.drewN | apply IsS47.drew | apply IsS47.set_1 | apply IsS47.set_2 | apply IsS47.set_3) | exact HI155.out)) (by (with_reducible repeat (first | apply Kd.R_alloc | apply Kd.R_drewN | apply Kd.R_drew)); exact HO_7.out) (by decide)) hk (fun _ h => h.2)) (fun _ h => h.1)); have n1_ := Aside0.mk (hb); have n2_ := Aside0.mk (hi); clear HO_7; clear HB; clear HI155; have HO_7 := n0_; have HB := n1_; have HI155 := n2_; clear n0_ n1_ n2_; (try clear hb); (try clear hb2); (try clear hk); (try clear hi)) | (go_at_call 53; (with_reducible refine (estreatref01_Zag.calls t165 t169 _ A10.out).mono ?_); rintro e w' ⟨rfl, ⟨nd, rfl⟩⟩; (try first | exact ⟨rfl, _, World.drewN_drewN _ _ _⟩ | exact ⟨rfl, _, Eq.trans (World.drewN_drewN _ _ _) (congrArg (World.drewN _) (Nat.add_assoc _ _ _))⟩); obtain ⟨ASz16_0, cSz16_0, HGz16, hgz16, HSz16_0⟩ := HI155.out; have hcz16_0 := cellS47_0 HGz16; have hcz16_1 := cellS47_1 HGz16; have hcz16_2 := cellS47_2 HGz16; have hcz16_3 := cellS47_3 HGz16; have hfz16_1 := blk_frozen HGz16 1; have hfz16_2 := blk_frozen HGz16 2; have hfz16_3 := blk_frozen HGz16 3; clear HGz16 hgz16)); go_upto_region 10 with (first | (go_at_call 28; (with_reducible refine (estreatref01_Reader_Var.calls k2 gb155 l0 x156001_2 x156002_2 x156003_2 t161 t162 t163 t164 w _ ?side1 ?side2 A8.out).mono ?_); (case side1 => repeat (first | (with_reducible first | exact HI155.out | apply IsS47.alloc | apply IsS47.drewN | apply IsS47.drew | apply IsS47.set_1 | apply IsS47.set_2 | apply IsS47.set_3) | exact HI155.out)); (case side2 => repeat (first | (with_reducible first | exact HB.out | apply below_alloc | apply pw_below_drewN | apply below_drew1 | refine below_set ?_ (IsS47.ge HI155.out)) | exact HB.out)); rintro e w14 ⟨rfl, hi, hb, hk⟩; have n0_ := Aside0.mk (Kd.R_mono (Kd.R_keep (IsS47.apart (show IsS47 w _ gb155 l0 x156001_2 x156002_2 x156003_2 from by repeat (first | (with_reducible first | exact HI155.out | apply IsS47.alloc | apply IsS47.drewN | apply IsS47.drew | apply IsS47.set_1 | apply IsS47.set_2 | apply IsS47.set_3) | exact HI155.out)) (by (with_reducible repeat (first | apply Kd.R_alloc | apply Kd.R_drewN | apply Kd.R_drew)); exact HO_7.out) (by decide)) hk (fun _ h => h.2)) (fun _ h => h.1)); have n1_ := Aside0.mk (hb); have n2_ := Aside0.mk (hi); clear HO_7; clear HB; clear HI155; have HO_7 := n0_; have HB := n1_; have HI155 := n2_; clear n0_ n1_ n2_; (try clear hb); (try clear hb2); (try clear hk); (try clear hi)) | (go_at_call 28; (with_reducible refine (estreatref01_Reader_Var.calls k2 gb155 l0 t162 t163 t164 t165 t166 t167 t168 w _ ?side1 ?side2 A9.out).mono ?_); (case side1 => repeat (first | (with_reducible first | exact HI155.out | apply IsS47.alloc | apply IsS47.drewN | apply IsS47.drew | apply IsS47.set_1 | apply IsS47.set_2 | apply IsS47.set_3) | exact HI155.out)); (case side2 => repeat (first | (with_reducible first | exact HB.out | apply below_alloc | apply pw_below_drewN | apply below_drew1 | refine below_set ?_ (IsS47.ge HI155.out)) | exact HB.out)); rintro e w15 ⟨rfl, hi, hb, hk⟩; have n0_ := Aside0.mk (Kd.R_mono (Kd.R_keep (IsS47.apart (show IsS47 w _ gb155 l0 t162 t163 t164 from by repeat (first | (with_reducible first | exact HI155.out | apply IsS47.alloc | apply IsS47.drewN | apply IsS47.drew | apply IsS47.set_1 | apply IsS47.set_2 | apply IsS47.set_3) | exact HI155.out)) (by (with_reducible repeat (first | apply Kd.R_alloc | apply Kd.R_drewN | apply Kd.R_drew)); exact HO_7.out) (by decide)) hk (fun _ h => h.2)) (fun _ h => h.1)); have n1_ := Aside0.mk (hb); have n2_ := Aside0.mk (hi); clear HO_7; clear HB; clear HI155; have HO_7 := n0_; have HB := n1_; have HI155 := n2_; clear n0_ n1_ n2_; (try clear hb); (try clear hb2); (try clear hk); (try clear hi)) | (go_at_call 53; (with_reducible refine (estreatref01_Zag.calls t165 t169 _ A10.out).mono ?_); rintro e w' ⟨rfl, ⟨nd, rfl⟩⟩; (try first | exact ⟨rfl, _, World.drewN_drewN _ _ _⟩ | exact ⟨rfl, _, Eq.trans (World.drewN_drewN _ _ _) (congrArg (World.drewN _) (Nat.add_assoc _ _ _))⟩); obtain ⟨ASz16_0, cSz16_0, HGz16, hgz16, HSz16_0⟩ := HI155.out; have hcz16_0 := cellS47_0 HGz16; have hcz16_1 := cellS47_1 HGz16; have hcz16_2 := cellS47_2 HGz16; have hcz16_3 := cellS47_3 HGz16; have hfz16_1 := blk_frozen HGz16 1; have hfz16_2 := blk_frozen HGz16 2; have hfz16_3 := blk_frozen HGz16 3; clear HGz16 hgz16)))
                (try simp only [Act.put, List.setIfInBounds_toArray, List.set_cons_zero, List.set_cons_succ])
                go_cut [53] (fun v53 wc => ∃ (kq : Nat) (x53_11 : Bool), v53 = .bool x53_11 ∧ Aside0 (estreatref09_Get.j2 kq a1 x7_2 t161 t169 x53_11 l0 t166 t167 t168 = some (r1, r2)) ∧ Aside0 (kq ≤ k2) ∧ Aside0 (Kd.R (Kd.int .i64) 2 wc w.heap.size (fun _ => True) (.slice Ao13 x7_2.length co13) x7_2) ∧ Aside0 (IsS47 w wc gb155 l0 t166 t167 t168) ∧ Aside0 (Below w.heap.size w wc))
                case first =>
                  have H := HC12.out
                  clear HC12
                  by_cases c17 : t161 ≥ (IntKind.u64.wrap (a1))
                  · rw [if_pos c17] at H
                    have c17b0 : decide ((IntKind.u64.wrap (a1)) ≤ t161) = true := decide_eq_true c17
                    clear c17
                    (first | rw [c17b0] | (simp only [i64_w, i32_w]; rw [c17b0]) | skip)
                    have H' := Aside0.mk H
                    clear H
                    go_wp2
                    repeat (go_quiet (fail); try go_wp2)
                    go_meet
                    case rel => exact ⟨_, (true), (by first | rfl | (simp; done) | (simp [*]; done)), H', ⟨by have := HJ2.out; have := HK2.out; first | omega | exact Nat.le_refl _⟩, ⟨by (with_reducible repeat (first | apply Kd.R_alloc | apply Kd.R_drewN | apply Kd.R_drew)); exact HO_7.out⟩, ⟨by repeat (first | (with_reducible first | exact HI155.out | apply IsS47.alloc | apply IsS47.drewN | apply IsS47.drew | apply IsS47.set_1 | apply IsS47.set_2 | apply IsS47.set_3) | exact HI155.out)⟩, ⟨by repeat (first | (with_reducible first | exact HB.out | apply below_alloc | apply pw_below_drewN | apply below_drew1 | refine below_set ?_ (IsS47.ge HI155.out)) | exact HB.out)⟩⟩
                  · rw [if_neg c17] at H
                    have c17b0 : decide ((IntKind.u64.wrap (a1)) ≤ t161) = false := decide_eq_false c17
                    clear c17
                    (first | rw [c17b0] | (simp only [i64_w, i32_w]; rw [c17b0]) | skip)
                    have H' := Aside0.mk H
                    clear H
                    go_wp2
                    repeat (go_quiet (fail); try go_wp2)
                    go_meet
                    case rel => exact ⟨_, (decide ((wrap64 ((wrap64 ((x7_2.length : Int) + (wrap64 (t161)))) + 1)) > a1)), (by first | rfl | (simp; done) | (simp [*]; done)), H', ⟨by have := HJ2.out; have := HK2.out; first | omega | exact Nat.le_refl _⟩, ⟨by (with_reducible repeat (first | apply Kd.R_alloc | apply Kd.R_drewN | apply Kd.R_drew)); exact HO_7.out⟩, ⟨by repeat (first | (with_reducible first | exact HI155.out | apply IsS47.alloc | apply IsS47.drewN | apply IsS47.drew | apply IsS47.set_1 | apply IsS47.set_2 | apply IsS47.set_3) | exact HI155.out)⟩, ⟨by repeat (first | (with_reducible first | exact HB.out | apply below_alloc | apply pw_below_drewN | apply below_drew1 | refine below_set ?_ (IsS47.ge HI155.out)) | exact HB.out)⟩⟩
                case rest =>
                  clear HC12
                  try clear c1
                  try clear p2
                  try clear c4
                  try clear c4b0
                  try clear c5
                  try clear p6
                  try clear c7
                  try clear c7b0
                  try clear c11
                  try clear c11b0
                  try clear c11b1
                  try clear c17
                  try clear c17b0
                  try clear hcz16_0
                  try clear hcz16_1
                  try clear hcz16_2
                  try clear hcz16_3
                  try clear hfz16_1
                  try clear hfz16_2
                  try clear hfz16_3
                  try clear p2
                  obtain ⟨kq, x53_11, rfl, HA, HJ11, HO_7, HI155, HB⟩ := hcut
                  cases kq with
                  | zero => exact absurd HA.out (by simp [estreatref09_Get.j2])
                  | succ kj11 =>
                    have H := HA.out
                    clear HA
                    simp only [estreatref09_Get.j2] at H
                    by_cases c18 : x53_11 = true
                    · subst c18
                      have H1 : (some (([] : List Int), 5)) = some (r1, r2) := by rw [if_pos rfl] at H; exact H
                      clear H
                      have H := H1
                      clear H1
                      simp only [Option.some.injEq, Prod.mk.injEq] at H
                      obtain ⟨rfl, rfl⟩ := H
                      go_wp2
                      repeat (go_quiet (fail); try go_wp2)
                      go_ret2
                      exact ⟨_, by first | rfl | (simp [errW_none, errW_some] <;> rfl) | (simp [*, errW_none, errW_some] <;> rfl), by first | exact Kd.R_nil _ _ _ _ _ | exact Kd.N_nil _ _ _ _ _ | exact Kd.V_nil _ _ _ _ _ | exact Kd.Q_nil _ _ _ _ _ | exact Kd.S_nil _ _ _ _ _, by repeat (first | (with_reducible first | exact HB.out | apply below_alloc | apply pw_below_drewN | apply below_drew1 | refine below_set ?_ (IsS47.ge HI155.out)) | exact HB.out)⟩
                    · replace c18 := Bool.eq_false_iff.mpr c18
                      subst c18
                      have H1 : (if (x7_2.length : Int) > 0 then (if 0 ≤ (wrap64 ((x7_2.length : Int) - 1)) then (if (wrap64 ((x7_2.length : Int) - 1)) < (x7_2.length : Int) then (estreatref09_Get.j3 kj11 a1 x7_2 t161 t169 ((rd x7_2 (wrap64 ((x7_2.length : Int) - 1))) == t169) l0 t166 t167 t168) else (none)) else (none)) else (estreatref09_Get.j3 kj11 a1 x7_2 t161 t169 false l0 t166 t167 t168)) = some (r1, r2) := by rw [if_neg (show ¬ (false = true) by decide)] at H; exact H
                      clear H
                      have H := H1
                      clear H1
                      have HC19 := Aside0.mk H
                      clear H
                      go_upto_region 12 with (fail)
                      repeat (go_quiet (fail); go_upto_region 12 with (fail))
                      go_cut [66] (fun v66 wc => ∃ (kq : Nat) (x66_18 : Bool), v66 = .bool x66_18 ∧ Aside0 (estreatref09_Get.j3 kq a1 x7_2 t161 t169 x66_18 l0 t166 t167 t168 = some (r1, r2)) ∧ Aside0 (kq ≤ kj11) ∧ Aside0 (Kd.R (Kd.int .i64) 2 wc w.heap.size (fun _ => True) (.slice Ao13 x7_2.length co13) x7_2) ∧ Aside0 (IsS47 w wc gb155 l0 t166 t167 t168) ∧ Aside0 (Below w.heap.size w wc))
                      case first =>
                        have H := HC19.out
                        clear HC19
                        by_cases c20 : (x7_2.length : Int) > 0
                        · rw [if_pos c20] at H
                          have c20b0 : decide (0 < (x7_2.length : Int)) = true := decide_eq_true c20
                          have c20b1 : decide (0 < x7_2.length) = true := decide_eq_true (by omega)
                          clear c20
                          (first | rw [c20b0] | (simp only [i64_w, i32_w]; rw [c20b0]) | skip)
                          obtain ⟨ji21, hji21⟩ : ∃ j_ : Int, (wrap64 ((x7_2.length : Int) - 1)) = j_ := ⟨_, rfl⟩
                          replace H : (if 0 ≤ (ji21) then (if (ji21) < (x7_2.length : Int) then (estreatref09_Get.j3 kj11 a1 x7_2 t161 t169 ((rd x7_2 (ji21)) == t169) l0 t166 t167 t168) else (none)) else (none)) = some (r1, r2) := by first | (rw [hji21] at H; exact H) | (simp only [hji21] at H ⊢; exact H)
                          have hji21w : (IntKind.i64.wrap ((x7_2.length : Int) - 1)) = ji21 := (i64_w _).trans hji21
                          by_cases c22 : 0 ≤ (ji21)
                          · rw [if_pos c22] at H
                            have c22b0 : decide (0 ≤ (ji21)) = true := decide_eq_true c22
                            clear c22
                            by_cases c23 : (ji21) < (x7_2.length : Int)
                            · rw [if_pos c23] at H
                              have c23b0 : decide ((ji21) < (x7_2.length : Int)) = true := decide_eq_true c23
                              clear c23
                              have H' := Aside0.mk H
                              clear H
                              have p170 : 0 ≤ ((ji21) : Int) := of_decide_eq_true (by first | (with_reducible assumption) | assumption)
                              have q170 : (ji21) < (x7_2.length : Int) := of_decide_eq_true (by first | (with_reducible assumption) | assumption)
                              obtain ⟨ad170, e170, hx170_0⟩ := Kd.at_int (Kd.R_reads' HO_7.out).2.2 (ji21) p170 q170
                              cases e170
                              replace p170 := eq_true p170
                              replace q170 := eq_true q170
                              go_wp2
                              repeat (go_quiet (fail); try go_wp2)
                              go_meet
                              case rel => exact ⟨_, (((rd x7_2 (ji21)) == t169)), (by first | rfl | (simp; done) | (simp only [← hji21] <;> (first | rfl | simp)) | (simp [*]; done)), H', ⟨by have := HJ2.out; have := HK2.out; have := HJ11.out; first | omega | exact Nat.le_refl _⟩, ⟨by (with_reducible repeat (first | apply Kd.R_alloc | apply Kd.R_drewN | apply Kd.R_drew)); exact HO_7.out⟩, ⟨by repeat (first | (with_reducible first | exact HI155.out | apply IsS47.alloc | apply IsS47.drewN | apply IsS47.drew | apply IsS47.set_1 | apply IsS47.set_2 | apply IsS47.set_3) | exact HI155.out)⟩, ⟨by repeat (first | (with_reducible first | exact HB.out | apply below_alloc | apply pw_below_drewN | apply below_drew1 | refine below_set ?_ (IsS47.ge HI155.out)) | exact HB.out)⟩⟩
                            · rw [if_neg c23] at H
                              exact absurd H (by simp)
                          · rw [if_neg c22] at H
                            exact absurd H (by simp)
                        · rw [if_neg c20] at H
                          have c20b0 : decide (0 < (x7_2.length : Int)) = false := decide_eq_false c20
                          have c20b1 : decide (0 < x7_2.length) = false := decide_eq_false (by omega)
                          clear c20
                          (first | rw [c20b0] | (simp only [i64_w, i32_w]; rw [c20b0]) | skip)
                          have H' := Aside0.mk H
                          clear H
                          go_wp2
                          repeat (go_quiet (fail); try go_wp2)
                          go_meet
                          case rel => exact ⟨_, (false), (by first | rfl | (simp; done) | (simp [*]; done)), H', ⟨by have := HJ2.out; have := HK2.out; have := HJ11.out; first | omega | exact Nat.le_refl _⟩, ⟨by (with_reducible repeat (first | apply Kd.R_alloc | apply Kd.R_drewN | apply Kd.R_drew)); exact HO_7.out⟩, ⟨by repeat (first | (with_reducible first | exact HI155.out | apply IsS47.alloc | apply IsS47.drewN | apply IsS47.drew | apply IsS47.set_1 | apply IsS47.set_2 | apply IsS47.set_3) | exact HI155.out)⟩, ⟨by repeat (first | (with_reducible first | exact HB.out | apply below_alloc | apply pw_below_drewN | apply below_drew1 | refine below_set ?_ (IsS47.ge HI155.out)) | exact HB.out)⟩⟩
                      case rest =>
                        clear HC19
                        try clear c1
                        try clear p1
                        try clear q1
                        try clear hx1
                        try clear c2
                        try clear p2
                        try clear c4
                        try clear c4b0
                        try clear c5
                        try clear p6
                        try clear c7
                        try clear c7b0
                        try clear c11
                        try clear c11b0
                        try clear c11b1
                        try clear c17
                        try clear c17b0
                        try clear p17
                        try clear q17
                        try clear hx17
                        try clear c18
                        try clear c20
                        try clear c20b0
                        try clear c20b1
                        try clear c22
                        try clear c22b0
                        try clear c23
                        try clear c23b0
                        try clear hcz16_0
                        try clear hcz16_1
                        try clear hcz16_2
                        try clear hcz16_3
                        try clear hfz16_1
                        try clear hfz16_2
                        try clear hfz16_3
                        try clear hx170_0
                        try clear p170
                        try clear p2
                        try clear p6
                        try clear q170
                        obtain ⟨kq, x66_18, rfl, HA, HJ18, HO_7, HI155, HB⟩ := hcut
                        cases kq with
                        | zero => exact absurd HA.out (by simp [estreatref09_Get.j3])
                        | succ kj18 =>
                          have H := HA.out
                          clear HA
                          simp only [estreatref09_Get.j3] at H
                          by_cases c24 : x66_18 = true
                          · subst c24
                            have H1 : (some (([] : List Int), 4)) = some (r1, r2) := by rw [if_pos rfl] at H; exact H
                            clear H
                            have H := H1
                            clear H1
                            simp only [Option.some.injEq, Prod.mk.injEq] at H
                            obtain ⟨rfl, rfl⟩ := H
                            go_wp2
                            repeat (go_quiet (fail); try go_wp2)
                            go_ret2
                            exact ⟨_, by first | rfl | (simp [errW_none, errW_some] <;> rfl) | (simp [*, errW_none, errW_some] <;> rfl), by first | exact Kd.R_nil _ _ _ _ _ | exact Kd.N_nil _ _ _ _ _ | exact Kd.V_nil _ _ _ _ _ | exact Kd.Q_nil _ _ _ _ _ | exact Kd.S_nil _ _ _ _ _, by repeat (first | (with_reducible first | exact HB.out | apply below_alloc | apply pw_below_drewN | apply below_drew1 | refine below_set ?_ (IsS47.ge HI155.out)) | exact HB.out)⟩
                          · replace c24 := Bool.eq_false_iff.mpr c24
                            subst c24
                            have H1 : (estreatref09_Get.l1 kj18 a1 x7_2 t161 t169 0 l0 t166 t167 t168) = some (r1, r2) := by rw [if_neg (show ¬ (false = true) by decide)] at H; exact H
                            clear H
                            have H := H1
                            clear H1
                            have H' := Aside0.mk H
                            clear H
                            go_wp2
                            repeat (go_quiet (fail); try go_wp2)
                            go_loopg [7, 10] kj18 (fun kq v7 v10 w' => ∃ (x7_5 : List Int) (x10_5 : Int), v10 = .int .i64 x10_5 ∧ Aside0 (estreatref09_Get.l1 kq a1 x7_5 t161 t169 x10_5 l0 t166 t167 t168 = some (r1, r2)) ∧ Aside0 (kq ≤ kj18) ∧ Aside0 (Kd.R (Kd.int .i64) 2 w' w.heap.size (fun _ => True) v7 x7_5) ∧ Aside0 (IsS47 w w' gb155 l0 t166 t167 t168) ∧ Aside0 (Below w.heap.size w w'))
                            case atStart => exact ⟨(x7_2), (0), (by first | rfl | (simp; done) | (simp [*]; done)), H', ⟨Nat.le_refl _⟩, ⟨by (with_reducible repeat (first | apply Kd.R_alloc | apply Kd.R_drewN | apply Kd.R_drew)); exact HO_7.out⟩, ⟨by repeat (first | (with_reducible first | exact HI155.out | apply IsS47.alloc | apply IsS47.drewN | apply IsS47.drew | apply IsS47.set_1 | apply IsS47.set_2 | apply IsS47.set_3) | exact HI155.out)⟩, ⟨by repeat (first | (with_reducible first | exact HB.out | apply below_alloc | apply pw_below_drewN | apply below_drew1 | refine below_set ?_ (IsS47.ge HI155.out)) | exact HB.out)⟩⟩
                            case round =>
                              clear H'
                              try clear c1
                              try clear p1
                              try clear q1
                              try clear hx1
                              try clear c2
                              try clear p2
                              try clear c4
                              try clear c4b0
                              try clear c5
                              try clear p6
                              try clear c7
                              try clear c7b0
                              try clear c11
                              try clear c11b0
                              try clear c11b1
                              try clear c17
                              try clear c17b0
                              try clear p17
                              try clear q17
                              try clear hx17
                              try clear c18
                              try clear c20
                              try clear c20b0
                              try clear c20b1
                              try clear c22
                              try clear c22b0
                              try clear c23
                              try clear c23b0
                              try clear c24
                              try clear hcz16_0
                              try clear hcz16_1
                              try clear hcz16_2
                              try clear hcz16_3
                              try clear hfz16_1
                              try clear hfz16_2
                              try clear hfz16_3
                              try clear hx170_0
                              try clear p1
                              try clear p17
                              try clear p170
                              try clear p2
                              try clear p6
                              try clear q1
                              try clear q17
                              try clear q170
                              obtain ⟨x7_5, x10_5, rfl, HA, HK5, HO_7, HI155, HB⟩ := hrel
                              cases gk with
                              | zero => exact absurd HA.out (by simp [estreatref09_Get.l1])
                              | succ k5 =>
                                have H := HA.out
                                clear HA
                                simp only [estreatref09_Get.l1] at H
                                by_cases c25 : x10_5 ≤ (wrap64 (t161))
                                · rw [if_pos c25] at H
                                  have c25b0 : decide (x10_5 ≤ (wrap64 (t161))) = true := decide_eq_true c25
                                  clear c25
                                  by_cases c26 : x7_5.length < 17592186044416
                                  · rw [if_pos c26] at H
                                    have LMc26 := Aside0.mk c26
                                    clear c26
                                    obtain ⟨y171, hy171⟩ : ∃ y_ : List Int, y_ = (x7_5 ++ [t169]) := ⟨_, rfl⟩
                                    replace H : (estreatref09_Get.l1 k5 a1 y171 t161 t169 (wrap64 (x10_5 + 1)) l0 t166 t167 t168) = some (r1, r2) := by first | (rw [hy171]; with_reducible exact H) | (have H2_ := (Option.bind_some _ _).symm.trans H; rw [hy171]; with_reducible exact H2_) | (have H2_ := (Option.bind_some _ _).symm.trans H; with_reducible exact H2_) | with_reducible exact H | (rw [hy171]; exact H) | exact H
                                    have Ny171 := Aside0.mk hy171
                                    clear hy171
                                    have H' := Aside0.mk H
                                    clear H
                                    go_wp2_with (first | ((with_reducible refine gate_builtin (b := .append) (xs := #[.tmp 73, .tmp 75]) rfl ?_); (try (refine gate_guard (by rfl) ?_; dsimp only)); at_builtin; refine Kd.R_append (Kd.int .i64) (w0 := w) w.heap.size rfl (.tmp 73) (.tmp 75) 54 2 (.int .i64 0) 8 rfl Tryd.underlying54 info2 rfl (by decide) (by omega) u7 x7_5 t169 [.int .i64 t169] (fun _ => True) (fun _ => False) rfl rfl ?aP (fun _ hk => hk.elim) ?aF ?aO ?aB ?aS ?aL ?_; (case aP => exact rfl); (case aB => exact (by repeat (first | (with_reducible first | exact HB.out | apply below_alloc | apply pw_below_drewN | apply below_drew1 | refine below_set ?_ (IsS47.ge HI155.out)) | exact HB.out))); (case aF => exact (fun _ _ => trivial)); (case aO => exact (by (with_reducible repeat (first | apply Kd.R_alloc | apply Kd.R_drewN | apply Kd.R_drew)); exact HO_7.out)); (case aS => exact (below_size (by repeat (first | (with_reducible first | exact HB.out | apply below_alloc | apply pw_below_drewN | apply below_drew1 | refine below_set ?_ (IsS47.ge HI155.out)) | exact HB.out)))); (case aL => have := LMc26.out; omega); intro v172 w27 ho hb hg hat; rw [← Ny171.out] at ho; have n0_ := Aside0.mk (IsS47.grown (by repeat (first | (with_reducible first | exact HI155.out | apply IsS47.alloc | apply IsS47.drewN | apply IsS47.drew | apply IsS47.set_1 | apply IsS47.set_2 | apply IsS47.set_3) | exact HI155.out)) hg (IsS47.own_ne HI155.out HO_7.out (by decide))); have n1_ := Aside0.mk (hb); have n2_ := Aside0.mk (ho); clear HI155; clear HB; clear HO_7; have HI155 := n0_; have HB := n1_; have HO173 := n2_; clear n0_ n1_ n2_; clear ho hb hg hat))
                                    repeat (go_quiet (first | ((with_reducible refine gate_builtin (b := .append) (xs := #[.tmp 73, .tmp 75]) rfl ?_); (try (refine gate_guard (by rfl) ?_; dsimp only)); at_builtin; refine Kd.R_append (Kd.int .i64) (w0 := w) w.heap.size rfl (.tmp 73) (.tmp 75) 54 2 (.int .i64 0) 8 rfl Tryd.underlying54 info2 rfl (by decide) (by omega) u7 x7_5 t169 [.int .i64 t169] (fun _ => True) (fun _ => False) rfl rfl ?aP (fun _ hk => hk.elim) ?aF ?aO ?aB ?aS ?aL ?_; (case aP => exact rfl); (case aB => exact (by repeat (first | (with_reducible first | exact HB.out | apply below_alloc | apply pw_below_drewN | apply below_drew1 | refine below_set ?_ (IsS47.ge HI155.out)) | exact HB.out))); (case aF => exact (fun _ _ => trivial)); (case aO => exact (by (with_reducible repeat (first | apply Kd.R_alloc | apply Kd.R_drewN | apply Kd.R_drew)); exact HO_7.out)); (case aS => exact (below_size (by repeat (first | (with_reducible first | exact HB.out | apply below_alloc | apply pw_below_drewN | apply below_drew1 | refine below_set ?_ (IsS47.ge HI155.out)) | exact HB.out)))); (case aL => have := LMc26.out; omega); intro v172 w27 ho hb hg hat; rw [← Ny171.out] at ho; have n0_ := Aside0.mk (IsS47.grown (by repeat (first | (with_reducible first | exact HI155.out | apply IsS47.alloc | apply IsS47.drewN | apply IsS47.drew | apply IsS47.set_1 | apply IsS47.set_2 | apply IsS47.set_3) | exact HI155.out)) hg (IsS47.own_ne HI155.out HO_7.out (by decide))); have n1_ := Aside0.mk (hb); have n2_ := Aside0.mk (ho); clear HI155; clear HB; clear HO_7; have HI155 := n0_; have HB := n1_; have HO173 := n2_; clear n0_ n1_ n2_; clear ho hb hg hat)); try go_wp2_with (first | ((with_reducible refine gate_builtin (b := .append) (xs := #[.tmp 73, .tmp 75]) rfl ?_); (try (refine gate_guard (by rfl) ?_; dsimp only)); at_builtin; refine Kd.R_append (Kd.int .i64) (w0 := w) w.heap.size rfl (.tmp 73) (.tmp 75) 54 2 (.int .i64 0) 8 rfl Tryd.underlying54 info2 rfl (by decide) (by omega) u7 x7_5 t169 [.int .i64 t169] (fun _ => True) (fun _ => False) rfl rfl ?aP (fun _ hk => hk.elim) ?aF ?aO ?aB ?aS ?aL ?_; (case aP => exact rfl); (case aB => exact (by repeat (first | (with_reducible first | exact HB.out | apply below_alloc | apply pw_below_drewN | apply below_drew1 | refine below_set ?_ (IsS47.ge HI155.out)) | exact HB.out))); (case aF => exact (fun _ _ => trivial)); (case aO => exact (by (with_reducible repeat (first | apply Kd.R_alloc | apply Kd.R_drewN | apply Kd.R_drew)); exact HO_7.out)); (case aS => exact (below_size (by repeat (first | (with_reducible first | exact HB.out | apply below_alloc | apply pw_below_drewN | apply below_drew1 | refine below_set ?_ (IsS47.ge HI155.out)) | exact HB.out)))); (case aL => have := LMc26.out; omega); intro v172 w27 ho hb hg hat; rw [← Ny171.out] at ho; have n0_ := Aside0.mk (IsS47.grown (by repeat (first | (with_reducible first | exact HI155.out | apply IsS47.alloc | apply IsS47.drewN | apply IsS47.drew | apply IsS47.set_1 | apply IsS47.set_2 | apply IsS47.set_3) | exact HI155.out)) hg (IsS47.own_ne HI155.out HO_7.out (by decide))); have n1_ := Aside0.mk (hb); have n2_ := Aside0.mk (ho); clear HI155; clear HB; clear HO_7; have HI155 := n0_; have HB := n1_; have HO173 := n2_; clear n0_ n1_ n2_; clear ho hb hg hat)))
                                    go_roundg k5
                                    case measure => have := HJ2.out; have := HK2.out; have := HJ11.out; have := HJ18.out; have := HK5.out; omega
                                    case rel => exact ⟨(y171), (wrap64 (x10_5 + 1)), (by first | rfl | (simp; done) | (simp [*]; done)), H', ⟨by have := HJ2.out; have := HK2.out; have := HJ11.out; have := HJ18.out; have := HK5.out; omega⟩, ⟨by (with_reducible repeat (first | apply Kd.R_alloc | apply Kd.R_drewN | apply Kd.R_drew)); exact HO173.out⟩, ⟨by repeat (first | (with_reducible first | exact HI155.out | apply IsS47.alloc | apply IsS47.drewN | apply IsS47.drew | apply IsS47.set_1 | apply IsS47.set_2 | apply IsS47.set_3) | exact HI155.out)⟩, ⟨by repeat (first | (with_reducible first | exact HB.out | apply below_alloc | apply pw_below_drewN | apply below_drew1 | refine below_set ?_ (IsS47.ge HI155.out)) | exact HB.out)⟩⟩
                                  · rw [if_neg c26] at H
                                    exact absurd H (by simp)
                                · rw [if_neg c25] at H
                                  have c25b0 : decide (x10_5 ≤ (wrap64 (t161))) = false := decide_eq_false c25
                                  clear c25
                                  have H' := Aside0.mk H
                                  clear H
                                  go_wp2
                                  repeat (go_quiet (fail); try go_wp2)
                                  go_roundg k5
                                  case measure => have := HJ2.out; have := HK2.out; have := HJ11.out; have := HJ18.out; have := HK5.out; omega
                                  case rel => exact ⟨(x7_5), (t166), (t167), (t168), H', ⟨by have := HJ2.out; have := HK2.out; have := HJ11.out; have := HJ18.out; have := HK5.out; omega⟩, ⟨by (with_reducible repeat (first | apply Kd.R_alloc | apply Kd.R_drewN | apply Kd.R_drew)); exact HO_7.out⟩, ⟨by repeat (first | (with_reducible first | exact HI155.out | apply IsS47.alloc | apply IsS47.drewN | apply IsS47.drew | apply IsS47.set_1 | apply IsS47.set_2 | apply IsS47.set_3) | exact HI155.out)⟩, ⟨by repeat (first | (with_reducible first | exact HB.out | apply below_alloc | apply pw_below_drewN | apply below_drew1 | refine below_set ?_ (IsS47.ge HI155.out)) | exact HB.out)⟩⟩
              · rw [if_neg c11] at H
                have c11b0 : (t167 == 0) = false := beq_eq_false_iff_ne.mpr c11
                have c11b1 : (t167 != 0) = true := bne_iff_ne.mpr c11
                simp only [Option.some.injEq, Prod.mk.injEq] at H
                obtain ⟨rfl, rfl⟩ := H
                obtain ⟨Ao28, co28, eo28⟩ := Kd.R_slice HO_7.out
                subst eo28
                go_wp2_with (first | (go_at_call 28; (with_reducible refine (estreatref01_Reader_Var.calls k2 gb155 l0 x156001_2 x156002_2 x156003_2 t161 t162 t163 t164 w _ ?side1 ?side2 A8.out).mono ?_); (case side1 => repeat (first | (with_reducible first | exact HI155.out | apply IsS47.alloc | apply IsS47.drewN | apply IsS47.drew | apply IsS47.set_1 | apply IsS47.set_2 | apply IsS47.set_3) | exact HI155.out)); (case side2 => repeat (first | (with_reducible first | exact HB.out | apply below_alloc | apply pw_below_drewN | apply below_drew1 | refine below_set ?_ (IsS47.ge HI155.out)) | exact HB.out)); rintro e w29 ⟨rfl, hi, hb, hk⟩; have n0_ := Aside0.mk (Kd.R_mono (Kd.R_keep (IsS47.apart (show IsS47 w _ gb155 l0 x156001_2 x156002_2 x156003_2 from by repeat (first | (with_reducible first | exact HI155.out | apply IsS47.alloc | apply IsS47.drewN | apply IsS47.drew | apply IsS47.set_1 | apply IsS47.set_2 | apply IsS47.set_3) | exact HI155.out)) (by (with_reducible repeat (first | apply Kd.R_alloc | apply Kd.R_drewN | apply Kd.R_drew)); exact HO_7.out) (by decide)) hk (fun _ h => h.2)) (fun _ h => h.1)); have n1_ := Aside0.mk (hb); have n2_ := Aside0.mk (hi); clear HO_7; clear HB; clear HI155; have HO_7 := n0_; have HB := n1_; have HI155 := n2_; clear n0_ n1_ n2_; (try clear hb); (try clear hb2); (try clear hk); (try clear hi)) | (go_at_call 28; (with_reducible refine (estreatref01_Reader_Var.calls k2 gb155 l0 t162 t163 t164 t165 t166 t167 t168 w _ ?side1 ?side2 A9.out).mono ?_); (case side1 => repeat (first | (with_reducible first | exact HI155.out | apply IsS47.alloc | apply IsS47.drewN | apply IsS47.drew | apply IsS47.set_1 | apply IsS47.set_2 | apply IsS47.set_3) | exact HI155.out)); (case side2 => repeat (first | (with_reducible first | exact HB.out | apply below_alloc | apply pw_below_drewN | apply below_drew1 | refine below_set ?_ (IsS47.ge HI155.out)) | exact HB.out)); rintro e w30 ⟨rfl, hi, hb, hk⟩; have n0_ := Aside0.mk (Kd.R_mono (Kd.R_keep (IsS47.apart (show IsS47 w _ gb155 l0 t162 t163 t164 from by repeat (first | (with_reducible first | exact HI155.out | apply IsS47.alloc | apply IsS47.drewN | apply IsS47.drew | apply IsS47.set_1 | apply IsS47.set_2 | apply IsS47.set_3) | exact HI155.out)) (by (with_reducible repeat (first | apply Kd.R_alloc | apply Kd.R_drewN | apply Kd.R_drew)); exact HO_7.out) (by decide)) hk (fun _ h => h.2)) (fun _ h => h.1)); have n1_ := Aside0.mk (hb); have n2_ := Aside0.mk (hi); clear HO_7; clear HB; clear HI155; have HO_7 := n0_; have HB := n1_; have HI155 := n2_; clear n0_ n1_ n2_; (try clear hb); (try clear hb2); (try clear hk); (try clear hi)) | (go_at_call 53; (with_reducible refine (estreatref01_Zag.calls t165 t169 _ A10.out).mono ?_); rintro e w' ⟨rfl, ⟨nd, rfl⟩⟩; (try first | exact ⟨rfl, _, World.drewN_drewN _ _ _⟩ | exact ⟨rfl, _, Eq.trans (World.drewN_drewN _ _ _) (congrArg (World.drewN _) (Nat.add_assoc _ _ _))⟩); obtain ⟨ASz31_0, cSz31_0, HGz31, hgz31, HSz31_0⟩ := HI155.out; have hcz31_0 := cellS47_0 HGz31; have hcz31_1 := cellS47_1 HGz31; have hcz31_2 := cellS47_2 HGz31; have hcz31_3 := cellS47_3 HGz31; have hfz31_1 := blk_frozen HGz31 1; have hfz31_2 := blk_frozen HGz31 2; have hfz31_3 := blk_frozen HGz31 3; clear HGz31 hgz31))
                repeat (go_quiet (first | (go_at_call 28; (with_reducible refine (estreatref01_Reader_Var.calls k2 gb155 l0 x156001_2 x156002_2 x156003_2 t161 t162 t163 t164 w _ ?side1 ?side2 A8.out).mono ?_); (case side1 => repeat (first | (with_reducible first | exact HI155.out | apply IsS47.alloc | apply IsS47.drewN | apply IsS47.drew | apply IsS47.set_1 | apply IsS47.set_2 | apply IsS47.set_3) | exact HI155.out)); (case side2 => repeat (first | (with_reducible first | exact HB.out | apply below_alloc | apply pw_below_drewN | apply below_drew1 | refine below_set ?_ (IsS47.ge HI155.out)) | exact HB.out)); rintro e w29 ⟨rfl, hi, hb, hk⟩; have n0_ := Aside0.mk (Kd.R_mono (Kd.R_keep (IsS47.apart (show IsS47 w _ gb155 l0 x156001_2 x156002_2 x156003_2 from by repeat (first | (with_reducible first | exact HI155.out | apply IsS47.alloc | apply IsS47.drewN | apply IsS47.drew | apply IsS47.set_1 | apply IsS47.set_2 | apply IsS47.set_3) | exact HI155.out)) (by (with_reducible repeat (first | apply Kd.R_alloc | apply Kd.R_drewN | apply Kd.R_drew)); exact HO_7.out) (by decide)) hk (fun _ h => h.2)) (fun _ h => h.1)); have n1_ := Aside0.mk (hb); have n2_ := Aside0.mk (hi); clear HO_7; clear HB; clear HI155; have HO_7 := n0_; have HB := n1_; have HI155 := n2_; clear n0_ n1_ n2_; (try clear hb); (try clear hb2); (try clear hk); (try clear hi)) | (go_at_call 28; (with_reducible refine (estreatref01_Reader_Var.calls k2 gb155 l0 t162 t163 t164 t165 t166 t167 t168 w _ ?side1 ?side2 A9.out).mono ?_); (case side1 => repeat (first | (with_reducible first | exact HI155.out | apply IsS47.alloc | apply IsS47.drewN | apply IsS47.drew | apply IsS47.set_1 | apply IsS47.set_2 | apply IsS47.set_3) | exact HI155.out)); (case side2 => repeat (first | (with_reducible first | exact HB.out | apply below_alloc | apply pw_below_drewN | apply below_drew1 | refine below_set ?_ (IsS47.ge HI155.out)) | exact HB.out)); rintro e w30 ⟨rfl, hi, hb, hk⟩; have n0_ := Aside0.mk (Kd.R_mono (Kd.R_keep (IsS47.apart (show IsS47 w _ gb155 l0 t162 t163 t164 from by repeat (first | (with_reducible first | exact HI155.out | apply IsS47.alloc | apply IsS47.drewN | apply IsS47.drew | apply IsS47.set_1 | apply IsS47.set_2 | apply IsS47.set_3) | exact HI155.out)) (by (with_reducible repeat (first | apply Kd.R_alloc | apply Kd.R_drewN | apply Kd.R_drew)); exact HO_7.out) (by decide)) hk (fun _ h => h.2)) (fun _ h => h.1)); have n1_ := Aside0.mk (hb); have n2_ := Aside0.mk (hi); clear HO_7; clear HB; clear HI155; have HO_7 := n0_; have HB := n1_; have HI155 := n2_; clear n0_ n1_ n2_; (try clear hb); (try clear hb2); (try clear hk); (try clear hi)) | (go_at_call 53; (with_reducible refine (estreatref01_Zag.calls t165 t169 _ A10.out).mono ?_); rintro e w' ⟨rfl, ⟨nd, rfl⟩⟩; (try first | exact ⟨rfl, _, World.drewN_drewN _ _ _⟩ | exact ⟨rfl, _, Eq.trans (World.drewN_drewN _ _ _) (congrArg (World.drewN _) (Nat.add_assoc _ _ _))⟩); obtain ⟨ASz31_0, cSz31_0, HGz31, hgz31, HSz31_0⟩ := HI155.out; have hcz31_0 := cellS47_0 HGz31; have hcz31_1 := cellS47_1 HGz31; have hcz31_2 := cellS47_2 HGz31; have hcz31_3 := cellS47_3 HGz31; have hfz31_1 := blk_frozen HGz31 1; have hfz31_2 := blk_frozen HGz31 2; have hfz31_3 := blk_frozen HGz31 3; clear HGz31 hgz31)); try go_wp2_with (first | (go_at_call 28; (with_reducible refine (estreatref01_Reader_Var.calls k2 gb155 l0 x156001_2 x156002_2 x156003_2 t161 t162 t163 t164 w _ ?side1 ?side2 A8.out).mono ?_); (case side1 => repeat (first | (with_reducible first | exact HI155.out | apply IsS47.alloc | apply IsS47.drewN | apply IsS47.drew | apply IsS47.set_1 | apply IsS47.set_2 | apply IsS47.set_3) | exact HI155.out)); (case side2 => repeat (first | (with_reducible first | exact HB.out | apply below_alloc | apply pw_below_drewN | apply below_drew1 | refine below_set ?_ (IsS47.ge HI155.out)) | exact HB.out)); rintro e w29 ⟨rfl, hi, hb, hk⟩; have n0_ := Aside0.mk (Kd.R_mono (Kd.R_keep (IsS47.apart (show IsS47 w _ gb155 l0 x156001_2 x156002_2 x156003_2 from by repeat (first | (with_reducible first | exact HI155.out | apply IsS47.alloc | apply IsS47.drewN | apply IsS47.drew | apply IsS47.set_1 | apply IsS47.set_2 | apply IsS47.set_3) | exact HI155.out)) (by (with_reducible repeat (first | apply Kd.R_alloc | apply Kd.R_drewN | apply Kd.R_drew)); exact HO_7.out) (by decide)) hk (fun _ h => h.2)) (fun _ h => h.1)); have n1_ := Aside0.mk (hb); have n2_ := Aside0.mk (hi); clear HO_7; clear HB; clear HI155; have HO_7 := n0_; have HB := n1_; have HI155 := n2_; clear n0_ n1_ n2_; (try clear hb); (try clear hb2); (try clear hk); (try clear hi)) | (go_at_call 28; (with_reducible refine (estreatref01_Reader_Var.calls k2 gb155 l0 t162 t163 t164 t165 t166 t167 t168 w _ ?side1 ?side2 A9.out).mono ?_); (case side1 => repeat (first | (with_reducible first | exact HI155.out | apply IsS47.alloc | apply IsS47.drewN | apply IsS47.drew | apply IsS47.set_1 | apply IsS47.set_2 | apply IsS47.set_3) | exact HI155.out)); (case side2 => repeat (first | (with_reducible first | exact HB.out | apply below_alloc | apply pw_below_drewN | apply below_drew1 | refine below_set ?_ (IsS47.ge HI155.out)) | exact HB.out)); rintro e w30 ⟨rfl, hi, hb, hk⟩; have n0_ := Aside0.mk (Kd.R_mono (Kd.R_keep (IsS47.apart (show IsS47 w _ gb155 l0 t162 t163 t164 from by repeat (first | (with_reducible first | exact HI155.out | apply IsS47.alloc | apply IsS47.drewN | apply IsS47.drew | apply IsS47.set_1 | apply IsS47.set_2 | apply IsS47.set_3) | exact HI155.out)) (by (with_reducible repeat (first | apply Kd.R_alloc | apply Kd.R_drewN | apply Kd.R_drew)); exact HO_7.out) (by decide)) hk (fun _ h => h.2)) (fun _ h => h.1)); have n1_ := Aside0.mk (hb); have n2_ := Aside0.mk (hi); clear HO_7; clear HB; clear HI155; have HO_7 := n0_; have HB := n1_; have HI155 := n2_; clear n0_ n1_ n2_; (try clear hb); (try clear hb2); (try clear hk); (try clear hi)) | (go_at_call 53; (with_reducible refine (estreatref01_Zag.calls t165 t169 _ A10.out).mono ?_); rintro e w' ⟨rfl, ⟨nd, rfl⟩⟩; (try first | exact ⟨rfl, _, World.drewN_drewN _ _ _⟩ | exact ⟨rfl, _, Eq.trans (World.drewN_drewN _ _ _) (congrArg (World.drewN _) (Nat.add_assoc _ _ _))⟩); obtain ⟨ASz31_0, cSz31_0, HGz31, hgz31, HSz31_0⟩ := HI155.out; have hcz31_0 := cellS47_0 HGz31; have hcz31_1 := cellS47_1 HGz31; have hcz31_2 := cellS47_2 HGz31; have hcz31_3 := cellS47_3 HGz31; have hfz31_1 := blk_frozen HGz31 1; have hfz31_2 := blk_frozen HGz31 2; have hfz31_3 := blk_frozen HGz31 3; clear HGz31 hgz31)))
                go_ret2
                exact ⟨_, by first | rfl | (simp [errW_none, errW_some] <;> rfl) | (simp [*, errW_none, errW_some] <;> rfl), by first | exact Kd.R_nil _ _ _ _ _ | exact Kd.N_nil _ _ _ _ _ | exact Kd.V_nil _ _ _ _ _ | exact Kd.Q_nil _ _ _ _ _ | exact Kd.S_nil _ _ _ _ _, by repeat (first | (with_reducible first | exact HB.out | apply below_alloc | apply pw_below_drewN | apply below_drew1 | refine below_set ?_ (IsS47.ge HI155.out)) | exact HB.out)⟩
            · rw [if_neg c7] at H
              have c7b0 : decide ((x7_2.length : Int) < a1) = false := decide_eq_false c7
              clear c7
              replace H := Option.bind_eq_some_iff.mp H
              obtain ⟨⟨t156, t157, t158, t159, t160⟩, A320, H⟩ := H
              replace H : (if t156 = 0 then (some (x7_2, 0)) else (some (([] : List Int), t156))) = some (r1, r2) := H
              have A32 := Aside0.mk A320
              clear A320
              by_cases c33 : t156 = 0
              · rw [if_pos c33] at H
                have c33b0 : (t156 == 0) = true := beq_iff_eq.mpr c33
                have c33b1 : (t156 != 0) = false := bne_eq_false_iff_eq.mpr c33
                clear c33
                simp only [Option.some.injEq, Prod.mk.injEq] at H
                obtain ⟨rfl, rfl⟩ := H
                obtain ⟨Ao34, co34, eo34⟩ := Kd.R_slice HO_7.out
                subst eo34
                go_wp2_with (first | (go_at_call 34; (with_reducible refine (estreatref01_Reader_End.calls gb155 l0 x156001_2 x156002_2 x156003_2 t156 t157 t158 t159 t160 w _ ?side1 ?side2 A32.out).mono ?_); (case side1 => repeat (first | (with_reducible first | exact HI155.out | apply IsS47.alloc | apply IsS47.drewN | apply IsS47.drew | apply IsS47.set_1 | apply IsS47.set_2 | apply IsS47.set_3) | exact HI155.out)); (case side2 => repeat (first | (with_reducible first | exact HB.out | apply below_alloc | apply pw_below_drewN | apply below_drew1 | refine below_set ?_ (IsS47.ge HI155.out)) | exact HB.out)); rintro e w35 ⟨rfl, hi, hb, hk⟩; have n0_ := Aside0.mk (Kd.R_mono (Kd.R_keep (IsS47.apart (show IsS47 w _ gb155 l0 x156001_2 x156002_2 x156003_2 from by repeat (first | (with_reducible first | exact HI155.out | apply IsS47.alloc | apply IsS47.drewN | apply IsS47.drew | apply IsS47.set_1 | apply IsS47.set_2 | apply IsS47.set_3) | exact HI155.out)) (by (with_reducible repeat (first | apply Kd.R_alloc | apply Kd.R_drewN | apply Kd.R_drew)); exact HO_7.out) (by decide)) hk (fun _ h => h.2)) (fun _ h => h.1)); have n1_ := Aside0.mk (hb); have n2_ := Aside0.mk (hi); clear HO_7; clear HB; clear HI155; have HO_7 := n0_; have HB := n1_; have HI155 := n2_; clear n0_ n1_ n2_; (try clear hb); (try clear hb2); (try clear hk); (try clear hi)))
                repeat (go_quiet (first | (go_at_call 34; (with_reducible refine (estreatref01_Reader_End.calls gb155 l0 x156001_2 x156002_2 x156003_2 t156 t157 t158 t159 t160 w _ ?side1 ?side2 A32.out).mono ?_); (case side1 => repeat (first | (with_reducible first | exact HI155.out | apply IsS47.alloc | apply IsS47.drewN | apply IsS47.drew | apply IsS47.set_1 | apply IsS47.set_2 | apply IsS47.set_3) | exact HI155.out)); (case side2 => repeat (first | (with_reducible first | exact HB.out | apply below_alloc | apply pw_below_drewN | apply below_drew1 | refine below_set ?_ (IsS47.ge HI155.out)) | exact HB.out)); rintro e w35 ⟨rfl, hi, hb, hk⟩; have n0_ := Aside0.mk (Kd.R_mono (Kd.R_keep (IsS47.apart (show IsS47 w _ gb155 l0 x156001_2 x156002_2 x156003_2 from by repeat (first | (with_reducible first | exact HI155.out | apply IsS47.alloc | apply IsS47.drewN | apply IsS47.drew | apply IsS47.set_1 | apply IsS47.set_2 | apply IsS47.set_3) | exact HI155.out)) (by (with_reducible repeat (first | apply Kd.R_alloc | apply Kd.R_drewN | apply Kd.R_drew)); exact HO_7.out) (by decide)) hk (fun _ h => h.2)) (fun _ h => h.1)); have n1_ := Aside0.mk (hb); have n2_ := Aside0.mk (hi); clear HO_7; clear HB; clear HI155; have HO_7 := n0_; have HB := n1_; have HI155 := n2_; clear n0_ n1_ n2_; (try clear hb); (try clear hb2); (try clear hk); (try clear hi))); try go_wp2_with (first | (go_at_call 34; (with_reducible refine (estreatref01_Reader_End.calls gb155 l0 x156001_2 x156002_2 x156003_2 t156 t157 t158 t159 t160 w _ ?side1 ?side2 A32.out).mono ?_); (case side1 => repeat (first | (with_reducible first | exact HI155.out | apply IsS47.alloc | apply IsS47.drewN | apply IsS47.drew | apply IsS47.set_1 | apply IsS47.set_2 | apply IsS47.set_3) | exact HI155.out)); (case side2 => repeat (first | (with_reducible first | exact HB.out | apply below_alloc | apply pw_below_drewN | apply below_drew1 | refine below_set ?_ (IsS47.ge HI155.out)) | exact HB.out)); rintro e w35 ⟨rfl, hi, hb, hk⟩; have n0_ := Aside0.mk (Kd.R_mono (Kd.R_keep (IsS47.apart (show IsS47 w _ gb155 l0 x156001_2 x156002_2 x156003_2 from by repeat (first | (with_reducible first | exact HI155.out | apply IsS47.alloc | apply IsS47.drewN | apply IsS47.drew | apply IsS47.set_1 | apply IsS47.set_2 | apply IsS47.set_3) | exact HI155.out)) (by (with_reducible repeat (first | apply Kd.R_alloc | apply Kd.R_drewN | apply Kd.R_drew)); exact HO_7.out) (by decide)) hk (fun _ h => h.2)) (fun _ h => h.1)); have n1_ := Aside0.mk (hb); have n2_ := Aside0.mk (hi); clear HO_7; clear HB; clear HI155; have HO_7 := n0_; have HB := n1_; have HI155 := n2_; clear n0_ n1_ n2_; (try clear hb); (try clear hb2); (try clear hk); (try clear hi))))
                go_ret2
                exact ⟨_, by first | rfl | (simp [errW_none, errW_some] <;> rfl) | (simp [*, errW_none, errW_some] <;> rfl), by (with_reducible repeat (first | apply Kd.R_alloc | apply Kd.R_drewN | apply Kd.R_drew)); exact HO_7.out, by repeat (first | (with_reducible first | exact HB.out | apply below_alloc | apply pw_below_drewN | apply below_drew1 | refine below_set ?_ (IsS47.ge HI155.out)) | exact HB.out)⟩
              · rw [if_neg c33] at H
                have c33b0 : (t156 == 0) = false := beq_eq_false_iff_ne.mpr c33
                have c33b1 : (t156 != 0) = true := bne_iff_ne.mpr c33
                simp only [Option.some.injEq, Prod.mk.injEq] at H
                obtain ⟨rfl, rfl⟩ := H
                obtain ⟨Ao36, co36, eo36⟩ := Kd.R_slice HO_7.out
                subst eo36
                go_wp2_with (first | (go_at_call 34; (with_reducible refine (estreatref01_Reader_End.calls gb155 l0 x156001_2 x156002_2 x156003_2 t156 t157 t158 t159 t160 w _ ?side1 ?side2 A32.out).mono ?_); (case side1 => repeat (first | (with_reducible first | exact HI155.out | apply IsS47.alloc | apply IsS47.drewN | apply IsS47.drew | apply IsS47.set_1 | apply IsS47.set_2 | apply IsS47.set_3) | exact HI155.out)); (case side2 => repeat (first | (with_reducible first | exact HB.out | apply below_alloc | apply pw_below_drewN | apply below_drew1 | refine below_set ?_ (IsS47.ge HI155.out)) | exact HB.out)); rintro e w37 ⟨rfl, hi, hb, hk⟩; have n0_ := Aside0.mk (Kd.R_mono (Kd.R_keep (IsS47.apart (show IsS47 w _ gb155 l0 x156001_2 x156002_2 x156003_2 from by repeat (first | (with_reducible first | exact HI155.out | apply IsS47.alloc | apply IsS47.drewN | apply IsS47.drew | apply IsS47.set_1 | apply IsS47.set_2 | apply IsS47.set_3) | exact HI155.out)) (by (with_reducible repeat (first | apply Kd.R_alloc | apply Kd.R_drewN | apply Kd.R_drew)); exact HO_7.out) (by decide)) hk (fun _ h => h.2)) (fun _ h => h.1)); have n1_ := Aside0.mk (hb); have n2_ := Aside0.mk (hi); clear HO_7; clear HB; clear HI155; have HO_7 := n0_; have HB := n1_; have HI155 := n2_; clear n0_ n1_ n2_; (try clear hb); (try clear hb2); (try clear hk); (try clear hi)))
                repeat (go_quiet (first | (go_at_call 34; (with_reducible refine (estreatref01_Reader_End.calls gb155 l0 x156001_2 x156002_2 x156003_2 t156 t157 t158 t159 t160 w _ ?side1 ?side2 A32.out).mono ?_); (case side1 => repeat (first | (with_reducible first | exact HI155.out | apply IsS47.alloc | apply IsS47.drewN | apply IsS47.drew | apply IsS47.set_1 | apply IsS47.set_2 | apply IsS47.set_3) | exact HI155.out)); (case side2 => repeat (first | (with_reducible first | exact HB.out | apply below_alloc | apply pw_below_drewN | apply below_drew1 | refine below_set ?_ (IsS47.ge HI155.out)) | exact HB.out)); rintro e w37 ⟨rfl, hi, hb, hk⟩; have n0_ := Aside0.mk (Kd.R_mono (Kd.R_keep (IsS47.apart (show IsS47 w _ gb155 l0 x156001_2 x156002_2 x156003_2 from by repeat (first | (with_reducible first | exact HI155.out | apply IsS47.alloc | apply IsS47.drewN | apply IsS47.drew | apply IsS47.set_1 | apply IsS47.set_2 | apply IsS47.set_3) | exact HI155.out)) (by (with_reducible repeat (first | apply Kd.R_alloc | apply Kd.R_drewN | apply Kd.R_drew)); exact HO_7.out) (by decide)) hk (fun _ h => h.2)) (fun _ h => h.1)); have n1_ := Aside0.mk (hb); have n2_ := Aside0.mk (hi); clear HO_7; clear HB; clear HI155; have HO_7 := n0_; have HB := n1_; have HI155 := n2_; clear n0_ n1_ n2_; (try clear hb); (try clear hb2); (try clear hk); (try clear hi))); try go_wp2_with (first | (go_at_call 34; (with_reducible refine (estreatref01_Reader_End.calls gb155 l0 x156001_2 x156002_2 x156003_2 t156 t157 t158 t159 t160 w _ ?side1 ?side2 A32.out).mono ?_); (case side1 => repeat (first | (with_reducible first | exact HI155.out | apply IsS47.alloc | apply IsS47.drewN | apply IsS47.drew | apply IsS47.set_1 | apply IsS47.set_2 | apply IsS47.set_3) | exact HI155.out)); (case side2 => repeat (first | (with_reducible first | exact HB.out | apply below_alloc | apply pw_below_drewN | apply below_drew1 | refine below_set ?_ (IsS47.ge HI155.out)) | exact HB.out)); rintro e w37 ⟨rfl, hi, hb, hk⟩; have n0_ := Aside0.mk (Kd.R_mono (Kd.R_keep (IsS47.apart (show IsS47 w _ gb155 l0 x156001_2 x156002_2 x156003_2 from by repeat (first | (with_reducible first | exact HI155.out | apply IsS47.alloc | apply IsS47.drewN | apply IsS47.drew | apply IsS47.set_1 | apply IsS47.set_2 | apply IsS47.set_3) | exact HI155.out)) (by (with_reducible repeat (first | apply Kd.R_alloc | apply Kd.R_drewN | apply Kd.R_drew)); exact HO_7.out) (by decide)) hk (fun _ h => h.2)) (fun _ h => h.1)); have n1_ := Aside0.mk (hb); have n2_ := Aside0.mk (hi); clear HO_7; clear HB; clear HI155; have HO_7 := n0_; have HB := n1_; have HI155 := n2_; clear n0_ n1_ n2_; (try clear hb); (try clear hb2); (try clear hk); (try clear hi))))
                go_ret2
                exact ⟨_, by first | rfl | (simp [errW_none, errW_some] <;> rfl) | (simp [*, errW_none, errW_some] <;> rfl), by first | exact Kd.R_nil _ _ _ _ _ | exact Kd.N_nil _ _ _ _ _ | exact Kd.V_nil _ _ _ _ _ | exact Kd.Q_nil _ _ _ _ _ | exact Kd.S_nil _ _ _ _ _, by repeat (first | (with_reducible first | exact HB.out | apply below_alloc | apply pw_below_drewN | apply below_drew1 | refine below_set ?_ (IsS47.ge HI155.out)) | exact HB.out)⟩

/-! ### estreatlaw09_RunsGets: function 8 -/
def estreatlaw09_RunsGets.j0 : Nat → List Int → Int → Bool → Option (Bool)
  | 0, _, _, _ => none
  | k + 1, x0, x1, x19 => if x19 = true then ((estreatlaw09_awake.f k).bind fun t174 => (some t174)) else ((runs_Get.f k x0 x1).bind fun bt175 => ((estreatref09_Get.f k x0 x1).bind fun bt179 => ((estreatref08_Same.f k bt175.1 bt179.1).bind fun t183 => (if t183 = true then (if bt175.2 = bt179.2 then ((estreatlaw09_awake.f k).bind fun t184 => (some t184)) else (some false)) else (some false)))))
def estreatlaw09_RunsGets.f (k : Nat) (l0 : List Int) (a1 : Int) : Option (Bool) := if (l0.length : Int) > 500 then (estreatlaw09_RunsGets.j0 k l0 a1 true) else (if a1 > 3000 then (estreatlaw09_RunsGets.j0 k l0 a1 (decide (a1 ≤ 65536))) else (estreatlaw09_RunsGets.j0 k l0 a1 false))
theorem estreatlaw09_RunsGets.mono_l : ∀ k, (∀ y0 y1 y2, LeO (estreatlaw09_RunsGets.j0 k y0 y1 y2) (estreatlaw09_RunsGets.j0 (k + 1) y0 y1 y2))
  | 0 => fun _ _ _ r h => by simp [estreatlaw09_RunsGets.j0] at h
  | k + 1 => by
    have ih0 := estreatlaw09_RunsGets.mono_l k
    · intro y0 y1 y2
      unfold estreatlaw09_RunsGets.j0
      repeat' first
      | (with_reducible exact ih0 _ _ _)
      | (with_reducible exact estreatlaw09_awake.mono _)
      | (with_reducible exact estreatref08_Same.mono _ _ _)
      | (with_reducible exact estreatref09_Get.mono _ _ _)
      | (with_reducible exact runs_Get.mono _ _ _)
      | (with_reducible exact LeO.refl _)
      | (with_reducible exact LeO.none _)
      | (with_reducible refine LeO.ite ?_ ?_)
      | (with_reducible refine LeO.bind ?_ (fun _ => ?_))
      | exact ih0 _ _ _
      | exact estreatlaw09_awake.mono _
      | exact estreatref08_Same.mono _ _ _
      | exact estreatref09_Get.mono _ _ _
      | exact runs_Get.mono _ _ _
      | exact LeO.none _
      | refine LeO.ite ?_ ?_
      | refine LeO.bind ?_ (fun _ => ?_)
theorem estreatlaw09_RunsGets.mono : ∀ a0 a1 k, LeO (estreatlaw09_RunsGets.f k a0 a1) (estreatlaw09_RunsGets.f (k + 1) a0 a1) := by
  intro a0 a1 k
  have ih0 := estreatlaw09_RunsGets.mono_l k
  unfold estreatlaw09_RunsGets.f
  repeat' first
      | (with_reducible exact ih0 _ _ _)
      | (with_reducible exact estreatlaw09_awake.mono _)
      | (with_reducible exact estreatref08_Same.mono _ _ _)
      | (with_reducible exact estreatref09_Get.mono _ _ _)
      | (with_reducible exact runs_Get.mono _ _ _)
      | (with_reducible exact LeO.refl _)
      | (with_reducible exact LeO.none _)
      | (with_reducible refine LeO.ite ?_ ?_)
      | (with_reducible refine LeO.bind ?_ (fun _ => ?_))
      | exact ih0 _ _ _
      | exact estreatlaw09_awake.mono _
      | exact estreatref08_Same.mono _ _ _
      | exact estreatref09_Get.mono _ _ _
      | exact runs_Get.mono _ _ _
      | exact LeO.none _
      | refine LeO.ite ?_ ?_
      | refine LeO.bind ?_ (fun _ => ?_)
set_option maxHeartbeats 8000000 in
set_option maxRecDepth 100000 in
theorem estreatlaw09_RunsGets.calls (k : Nat) (A0 : Option Addr) (c0 : Nat) (l0 : List Int) (a1 : Int) (r : Bool) (w : World) (hr0 : Kd.C (Kd.int .u8) w A0 l0.length l0) (hc0 : l0.length ≤ c0) (hG : HG w) (h : estreatlaw09_RunsGets.f k l0 a1 = some r) :
    Calls Tryd.prog 8 #[.slice A0 l0.length c0, .int .i64 a1] w fun e w' => e = .returned (.bool r) ∧ Below w.heap.size w w' := by
  have HR0 := Aside0.mk hr0
  have HC0 := Aside0.mk hc0
  clear hr0 hc0
  have HB := Aside0.mk (Below.refl w.heap.size w)
  have H : (if (l0.length : Int) > 500 then (estreatlaw09_RunsGets.j0 k l0 a1 true) else (if a1 > 3000 then (estreatlaw09_RunsGets.j0 k l0 a1 (decide (a1 ≤ 65536))) else (estreatlaw09_RunsGets.j0 k l0 a1 false))) = some r := h
  clear h
  have HC3 := Aside0.mk H
  clear H
  go_enter Tryd.func8, Tryd.ntmps8
  go_upto_region 1 with (fail)
  go_cut [19] (fun v19 wc => ∃ (kq : Nat) (x19_2 : Bool), v19 = .bool x19_2 ∧ Aside0 (estreatlaw09_RunsGets.j0 kq l0 a1 x19_2 = some r) ∧ Aside0 (kq ≤ k) ∧ Aside0 (Below w.heap.size w wc))
  case first =>
    have H := HC3.out
    clear HC3
    by_cases c4 : (l0.length : Int) > 500
    · rw [if_pos c4] at H
      have c4b0 : decide (500 < (l0.length : Int)) = true := decide_eq_true c4
      have c4b1 : decide (500 < l0.length) = true := decide_eq_true (by omega)
      clear c4
      (first | rw [c4b0] | (simp only [i64_w, i32_w]; rw [c4b0]) | skip)
      have H' := Aside0.mk H
      clear H
      go_wp2
      go_meet
      case rel => exact ⟨_, (true), (by first | rfl | (simp; done) | (simp [*]; done)), H', ⟨by first | omega | exact Nat.le_refl _⟩, ⟨by repeat (first | (with_reducible first | exact HB.out | apply below_alloc | apply pw_below_drewN | apply below_drew1) | exact HB.out)⟩⟩
    · rw [if_neg c4] at H
      have c4b0 : decide (500 < (l0.length : Int)) = false := decide_eq_false c4
      have c4b1 : decide (500 < l0.length) = false := decide_eq_false (by omega)
      clear c4
      (first | rw [c4b0] | (simp only [i64_w, i32_w]; rw [c4b0]) | skip)
      by_cases c5 : a1 > 3000
      · rw [if_pos c5] at H
        have c5b0 : decide (3000 < a1) = true := decide_eq_true c5
        clear c5
        have H' := Aside0.mk H
        clear H
        go_wp2
        go_meet
        case rel => exact ⟨_, (decide (a1 ≤ 65536)), (by first | rfl | (simp; done) | (simp [*]; done)), H', ⟨by first | omega | exact Nat.le_refl _⟩, ⟨by repeat (first | (with_reducible first | exact HB.out | apply below_alloc | apply pw_below_drewN | apply below_drew1) | exact HB.out)⟩⟩
      · rw [if_neg c5] at H
        have c5b0 : decide (3000 < a1) = false := decide_eq_false c5
        clear c5
        have H' := Aside0.mk H
        clear H
        go_wp2
        go_meet
        case rel => exact ⟨_, (false), (by first | rfl | (simp; done) | (simp [*]; done)), H', ⟨by first | omega | exact Nat.le_refl _⟩, ⟨by repeat (first | (with_reducible first | exact HB.out | apply below_alloc | apply pw_below_drewN | apply below_drew1) | exact HB.out)⟩⟩
  case rest =>
    clear HC3
    try clear p2
    try clear c4
    try clear c4b0
    try clear c4b1
    try clear c5
    try clear c5b0
    obtain ⟨kq, x19_2, rfl, HA, HJ2, HB⟩ := hcut
    cases kq with
    | zero => exact absurd HA.out (by simp [estreatlaw09_RunsGets.j0])
    | succ kj2 =>
      have H := HA.out
      clear HA
      simp only [estreatlaw09_RunsGets.j0] at H
      by_cases c6 : x19_2 = true
      · subst c6
        have H1 : ((estreatlaw09_awake.f kj2).bind fun t174 => (some t174)) = some r := by rw [if_pos rfl] at H; exact H
        clear H
        have H := H1
        clear H1
        replace H := Option.bind_eq_some_iff.mp H
        obtain ⟨t174, A70, H⟩ := H
        replace H : (some t174) = some r := H
        have A7 := Aside0.mk A70
        clear A70
        obtain rfl := Option.some.inj H
        go_wp2_with (first | ((with_reducible refine gate_callee (f := 40) rfl ?_); refine goesL_ (some 20) rfl rfl Tryd.func40 (by kernel_rfl) rfl #[] rfl (by (try simp only [List.map_toArray, List.map_cons, List.map_nil]); first | done | rfl | (simp only [List.length_drop, List.length_take]; rfl)) ?_; (with_reducible refine (estreatlaw09_awake.calls kj2  t174 _ A7.out).mono ?_); rintro e w8 ⟨rfl, hb⟩; refine ⟨_, rfl, ?_⟩; have n0_ := Aside0.mk (below_step (by repeat (first | (with_reducible first | exact HB.out | apply below_alloc | apply pw_below_drewN | apply below_drew1) | exact HB.out)) hb); clear HB; have HB := n0_; clear n0_; (try clear hb); (try clear hb2); (try clear hk); (try clear hi)))
        go_ret
        exact ⟨by first | rfl | (simp [errW_none, errW_some] <;> rfl) | (simp [*, errW_none, errW_some] <;> rfl), by repeat (first | (with_reducible first | exact HB.out | apply below_alloc | apply pw_below_drewN | apply below_drew1) | exact HB.out)⟩
      · replace c6 := Bool.eq_false_iff.mpr c6
        subst c6
        have H1 : ((runs_Get.f kj2 l0 a1).bind fun bt175 => ((estreatref09_Get.f kj2 l0 a1).bind fun bt179 => ((estreatref08_Same.f kj2 bt175.1 bt179.1).bind fun t183 => (if t183 = true then (if bt175.2 = bt179.2 then ((estreatlaw09_awake.f kj2).bind fun t184 => (some t184)) else (some false)) else (some false))))) = some r := by rw [if_neg (show ¬ (false = true) by decide)] at H; exact H
        clear H
        have H := H1
        clear H1
        replace H := Option.bind_eq_some_iff.mp H
        obtain ⟨⟨t175, t176⟩, A90, H⟩ := H
        replace H : ((estreatref09_Get.f kj2 l0 a1).bind fun bt179 => ((estreatref08_Same.f kj2 t175 bt179.1).bind fun t183 => (if t183 = true then (if t176 = bt179.2 then ((estreatlaw09_awake.f kj2).bind fun t184 => (some t184)) else (some false)) else (some false)))) = some r := H
        have A9 := Aside0.mk A90
        clear A90
        replace H := Option.bind_eq_some_iff.mp H
        obtain ⟨⟨t179, t180⟩, A100, H⟩ := H
        replace H : ((estreatref08_Same.f kj2 t175 t179).bind fun t183 => (if t183 = true then (if t176 = t180 then ((estreatlaw09_awake.f kj2).bind fun t184 => (some t184)) else (some false)) else (some false))) = some r := H
        have A10 := Aside0.mk A100
        clear A100
        replace H := Option.bind_eq_some_iff.mp H
        obtain ⟨t183, A110, H⟩ := H
        replace H : (if t183 = true then (if t176 = t180 then ((estreatlaw09_awake.f kj2).bind fun t184 => (some t184)) else (some false)) else (some false)) = some r := H
        have A11 := Aside0.mk A110
        clear A110
        by_cases c12 : t183 = true
        · subst c12
          have H1 : (if t176 = t180 then ((estreatlaw09_awake.f kj2).bind fun t184 => (some t184)) else (some false)) = some r := by rw [if_pos rfl] at H; exact H
          clear H
          have H := H1
          clear H1
          by_cases c13 : t176 = t180
          · rw [if_pos c13] at H
            have c13b0 : (t176 == t180) = true := beq_iff_eq.mpr c13
            have c13b1 : (t176 != t180) = false := bne_eq_false_iff_eq.mpr c13
            clear c13
            replace H := Option.bind_eq_some_iff.mp H
            obtain ⟨t184, A140, H⟩ := H
            replace H : (some t184) = some r := H
            have A14 := Aside0.mk A140
            clear A140
            obtain rfl := Option.some.inj H
            go_wp2_with (first | ((with_reducible refine gate_callee (f := 41) rfl ?_); refine goesL_ (some 24) rfl rfl Tryd.func41 (by kernel_rfl) rfl #[.slice A0 l0.length c0, .int .i64 a1] rfl (by (try simp only [List.map_toArray, List.map_cons, List.map_nil]); first | done | rfl | (simp only [List.length_drop, List.length_take]; rfl)) ?_; (with_reducible refine (runs_Get.calls kj2 _ _ l0 a1 t175 t176 _ ?side1 ?side2 (HG.below (by repeat (first | (with_reducible first | exact HB.out | apply below_alloc | apply pw_below_drewN | apply below_drew1) | exact HB.out)) hG) A9.out).mono ?_); (case side1 => repeat (first | exact (Kd.C_below HR0.out HB.out) | (with_reducible refine Kd.C_alloc ?_ _) | (with_reducible refine Kd.C_drewN ?_ _) | (with_reducible refine Kd.C_drew ?_))); (case side2 => exact HC0.out); rintro e w15 ⟨v177, rfl, ho0, hb⟩; refine ⟨_, rfl, ?_⟩; have n0_ := Aside0.mk (Kd.R_lower ho0 (below_size (by repeat (first | (with_reducible first | exact HB.out | apply below_alloc | apply pw_below_drewN | apply below_drew1) | exact HB.out)))); have n1_ := Aside0.mk (below_step (by repeat (first | (with_reducible first | exact HB.out | apply below_alloc | apply pw_below_drewN | apply below_drew1) | exact HB.out)) hb); clear HB; have HO178 := n0_; have HB := n1_; clear n0_ n1_; (try clear hb); (try clear hb2); (try clear hk); (try clear hi); (try clear ho0)) | ((with_reducible refine gate_callee (f := 42) rfl ?_); refine goesL_ (some 30) rfl rfl Tryd.func42 (by kernel_rfl) rfl #[.slice A0 l0.length c0, .int .i64 a1] rfl (by (try simp only [List.map_toArray, List.map_cons, List.map_nil]); first | done | rfl | (simp only [List.length_drop, List.length_take]; rfl)) ?_; (with_reducible refine (estreatref09_Get.calls kj2 _ _ l0 a1 t179 t180 _ ?side1 ?side2 A10.out).mono ?_); (case side1 => repeat (first | exact (Kd.C_below HR0.out HB.out) | (with_reducible refine Kd.C_alloc ?_ _) | (with_reducible refine Kd.C_drewN ?_ _) | (with_reducible refine Kd.C_drew ?_))); (case side2 => exact HC0.out); rintro e w16 ⟨v181, rfl, ho0, hb⟩; refine ⟨_, rfl, ?_⟩; have n0_ := Aside0.mk (Kd.R_elder' (by (with_reducible repeat (first | apply Kd.R_alloc | apply Kd.R_drewN | apply Kd.R_drew)); exact HO178.out) (Kd.R_base ho0) hb); have n1_ := Aside0.mk (Kd.R_lower (Kd.R_new' ho0 (Kd.R_lt (by (with_reducible repeat (first | apply Kd.R_alloc | apply Kd.R_drewN | apply Kd.R_drew)); exact HO178.out))) (below_size (by repeat (first | (with_reducible first | exact HB.out | apply below_alloc | apply pw_below_drewN | apply below_drew1) | exact HB.out)))); have n2_ := Aside0.mk (below_step (by repeat (first | (with_reducible first | exact HB.out | apply below_alloc | apply pw_below_drewN | apply below_drew1) | exact HB.out)) hb); clear HO178; clear HB; have HO178 := n0_; have HO182 := n1_; have HB := n2_; clear n0_ n1_ n2_; (try clear hb); (try clear hb2); (try clear hk); (try clear hi); (try clear ho0); obtain ⟨Ao17, co17, eo17⟩ := Kd.R_slice HO178.out; subst eo17; obtain ⟨Ao18, co18, eo18⟩ := Kd.R_slice HO182.out; subst eo18) | ((with_reducible refine gate_callee (f := 38) rfl ?_); refine goesL_ (some 35) rfl rfl Tryd.func38 (by kernel_rfl) rfl #[.slice Ao17 t175.length co17, .slice Ao18 t179.length co18] rfl (by (try simp only [List.map_toArray, List.map_cons, List.map_nil]); first | done | rfl | (simp only [List.length_drop, List.length_take]; rfl)) ?_; (with_reducible refine (estreatref08_Same.calls kj2 _ _ t175 _ _ t179 true _ ?side1 ?side2 ?side3 ?side4 A11.out).mono ?_); (case side1 => repeat (first | exact (Kd.R_reads' HO178.out).2.2 | (with_reducible refine Kd.C_alloc ?_ _) | (with_reducible refine Kd.C_drewN ?_ _) | (with_reducible refine Kd.C_drew ?_))); (case side2 => exact (Kd.R_reads' HO178.out).2.1); (case side3 => repeat (first | exact (Kd.R_reads' HO182.out).2.2 | (with_reducible refine Kd.C_alloc ?_ _) | (with_reducible refine Kd.C_drewN ?_ _) | (with_reducible refine Kd.C_drew ?_))); (case side4 => exact (Kd.R_reads' HO182.out).2.1); rintro e w' ⟨rfl, ⟨nd, rfl⟩⟩; refine ⟨_, rfl, ?_⟩) | (go_at_call 40; (with_reducible refine (estreatlaw09_awake.calls kj2  t184 _ A14.out).mono ?_); rintro e w19 ⟨rfl, hb⟩; have n0_ := Aside0.mk (Kd.R_below (by (with_reducible repeat (first | apply Kd.R_alloc | apply Kd.R_drewN | apply Kd.R_drew)); exact HO178.out) hb); have n1_ := Aside0.mk (Kd.R_below (by (with_reducible repeat (first | apply Kd.R_alloc | apply Kd.R_drewN | apply Kd.R_drew)); exact HO182.out) hb); have n2_ := Aside0.mk (below_step (by repeat (first | (with_reducible first | exact HB.out | apply below_alloc | apply pw_below_drewN | apply below_drew1) | exact HB.out)) hb); clear HO178; clear HO182; clear HB; have HO178 := n0_; have HO182 := n1_; have HB := n2_; clear n0_ n1_ n2_; (try clear hb); (try clear hb2); (try clear hk); (try clear hi)))
            go_ret
            exact ⟨by first | rfl | (simp [errW_none, errW_some] <;> rfl) | (simp [*, errW_none, errW_some] <;> rfl), by repeat (first | (with_reducible first | exact HB.out | apply below_alloc | apply pw_below_drewN | apply below_drew1) | exact HB.out)⟩
          · rw [if_neg c13] at H
            have c13b0 : (t176 == t180) = false := beq_eq_false_iff_ne.mpr c13
            have c13b1 : (t176 != t180) = true := bne_iff_ne.mpr c13
            obtain rfl := Option.some.inj H
            go_wp2_with (first | ((with_reducible refine gate_callee (f := 41) rfl ?_); refine goesL_ (some 24) rfl rfl Tryd.func41 (by kernel_rfl) rfl #[.slice A0 l0.length c0, .int .i64 a1] rfl (by (try simp only [List.map_toArray, List.map_cons, List.map_nil]); first | done | rfl | (simp only [List.length_drop, List.length_take]; rfl)) ?_; (with_reducible refine (runs_Get.calls kj2 _ _ l0 a1 t175 t176 _ ?side1 ?side2 (HG.below (by repeat (first | (with_reducible first | exact HB.out | apply below_alloc | apply pw_below_drewN | apply below_drew1) | exact HB.out)) hG) A9.out).mono ?_); (case side1 => repeat (first | exact (Kd.C_below HR0.out HB.out) | (with_reducible refine Kd.C_alloc ?_ _) | (with_reducible refine Kd.C_drewN ?_ _) | (with_reducible refine Kd.C_drew ?_))); (case side2 => exact HC0.out); rintro e w20 ⟨v177, rfl, ho0, hb⟩; refine ⟨_, rfl, ?_⟩; have n0_ := Aside0.mk (Kd.R_lower ho0 (below_size (by repeat (first | (with_reducible first | exact HB.out | apply below_alloc | apply pw_below_drewN | apply below_drew1) | exact HB.out)))); have n1_ := Aside0.mk (below_step (by repeat (first | (with_reducible first | exact HB.out | apply below_alloc | apply pw_below_drewN | apply below_drew1) | exact HB.out)) hb); clear HB; have HO178 := n0_; have HB := n1_; clear n0_ n1_; (try clear hb); (try clear hb2); (try clear hk); (try clear hi); (try clear ho0)) | ((with_reducible refine gate_callee (f := 42) rfl ?_); refine goesL_ (some 30) rfl rfl Tryd.func42 (by kernel_rfl) rfl #[.slice A0 l0.length c0, .int .i64 a1] rfl (by (try simp only [List.map_toArray, List.map_cons, List.map_nil]); first | done | rfl | (simp only [List.length_drop, List.length_take]; rfl)) ?_; (with_reducible refine (estreatref09_Get.calls kj2 _ _ l0 a1 t179 t180 _ ?side1 ?side2 A10.out).mono ?_); (case side1 => repeat (first | exact (Kd.C_below HR0.out HB.out) | (with_reducible refine Kd.C_alloc ?_ _) | (with_reducible refine Kd.C_drewN ?_ _) | (with_reducible refine Kd.C_drew ?_))); (case side2 => exact HC0.out); rintro e w21 ⟨v181, rfl, ho0, hb⟩; refine ⟨_, rfl, ?_⟩; have n0_ := Aside0.mk (Kd.R_elder' (by (with_reducible repeat (first | apply Kd.R_alloc | apply Kd.R_drewN | apply Kd.R_drew)); exact HO178.out) (Kd.R_base ho0) hb); have n1_ := Aside0.mk (Kd.R_lower (Kd.R_new' ho0 (Kd.R_lt (by (with_reducible repeat (first | apply Kd.R_alloc | apply Kd.R_drewN | apply Kd.R_drew)); exact HO178.out))) (below_size (by repeat (first | (with_reducible first | exact HB.out | apply below_alloc | apply pw_below_drewN | apply below_drew1) | exact HB.out)))); have n2_ := Aside0.mk (below_step (by repeat (first | (with_reducible first | exact HB.out | apply below_alloc | apply pw_below_drewN | apply below_drew1) | exact HB.out)) hb); clear HO178; clear HB; have HO178 := n0_; have HO182 := n1_; have HB := n2_; clear n0_ n1_ n2_; (try clear hb); (try clear hb2); (try clear hk); (try clear hi); (try clear ho0); obtain ⟨Ao22, co22, eo22⟩ := Kd.R_slice HO178.out; subst eo22; obtain ⟨Ao23, co23, eo23⟩ := Kd.R_slice HO182.out; subst eo23) | ((with_reducible refine gate_callee (f := 38) rfl ?_); refine goesL_ (some 35) rfl rfl Tryd.func38 (by kernel_rfl) rfl #[.slice Ao22 t175.length co22, .slice Ao23 t179.length co23] rfl (by (try simp only [List.map_toArray, List.map_cons, List.map_nil]); first | done | rfl | (simp only [List.length_drop, List.length_take]; rfl)) ?_; (with_reducible refine (estreatref08_Same.calls kj2 _ _ t175 _ _ t179 true _ ?side1 ?side2 ?side3 ?side4 A11.out).mono ?_); (case side1 => repeat (first | exact (Kd.R_reads' HO178.out).2.2 | (with_reducible refine Kd.C_alloc ?_ _) | (with_reducible refine Kd.C_drewN ?_ _) | (with_reducible refine Kd.C_drew ?_))); (case side2 => exact (Kd.R_reads' HO178.out).2.1); (case side3 => repeat (first | exact (Kd.R_reads' HO182.out).2.2 | (with_reducible refine Kd.C_alloc ?_ _) | (with_reducible refine Kd.C_drewN ?_ _) | (with_reducible refine Kd.C_drew ?_))); (case side4 => exact (Kd.R_reads' HO182.out).2.1); rintro e w' ⟨rfl, ⟨nd, rfl⟩⟩; refine ⟨_, rfl, ?_⟩))
            go_ret
            exact ⟨by first | rfl | (simp [errW_none, errW_some] <;> rfl) | (simp [*, errW_none, errW_some] <;> rfl), by repeat (first | (with_reducible first | exact HB.out | apply below_alloc | apply pw_below_drewN | apply below_drew1) | exact HB.out)⟩
        · replace c12 := Bool.eq_false_iff.mpr c12
          subst c12
          have H1 : (some false) = some r := by rw [if_neg (show ¬ (false = true) by decide)] at H; exact H
          clear H
          have H := H1
          clear H1
          obtain rfl := Option.some.inj H
          go_wp2_with (first | ((with_reducible refine gate_callee (f := 41) rfl ?_); refine goesL_ (some 24) rfl rfl Tryd.func41 (by kernel_rfl) rfl #[.slice A0 l0.length c0, .int .i64 a1] rfl (by (try simp only [List.map_toArray, List.map_cons, List.map_nil]); first | done | rfl | (simp only [List.length_drop, List.length_take]; rfl)) ?_; (with_reducible refine (runs_Get.calls kj2 _ _ l0 a1 t175 t176 _ ?side1 ?side2 (HG.below (by repeat (first | (with_reducible first | exact HB.out | apply below_alloc | apply pw_below_drewN | apply below_drew1) | exact HB.out)) hG) A9.out).mono ?_); (case side1 => repeat (first | exact (Kd.C_below HR0.out HB.out) | (with_reducible refine Kd.C_alloc ?_ _) | (with_reducible refine Kd.C_drewN ?_ _) | (with_reducible refine Kd.C_drew ?_))); (case side2 => exact HC0.out); rintro e w24 ⟨v177, rfl, ho0, hb⟩; refine ⟨_, rfl, ?_⟩; have n0_ := Aside0.mk (Kd.R_lower ho0 (below_size (by repeat (first | (with_reducible first | exact HB.out | apply below_alloc | apply pw_below_drewN | apply below_drew1) | exact HB.out)))); have n1_ := Aside0.mk (below_step (by repeat (first | (with_reducible first | exact HB.out | apply below_alloc | apply pw_below_drewN | apply below_drew1) | exact HB.out)) hb); clear HB; have HO178 := n0_; have HB := n1_; clear n0_ n1_; (try clear hb); (try clear hb2); (try clear hk); (try clear hi); (try clear ho0)) | ((with_reducible refine gate_callee (f := 42) rfl ?_); refine goesL_ (some 30) rfl rfl Tryd.func42 (by kernel_rfl) rfl #[.slice A0 l0.length c0, .int .i64 a1] rfl (by (try simp only [List.map_toArray, List.map_cons, List.map_nil]); first | done | rfl | (simp only [List.length_drop, List.length_take]; rfl)) ?_; (with_reducible refine (estreatref09_Get.calls kj2 _ _ l0 a1 t179 t180 _ ?side1 ?side2 A10.out).mono ?_); (case side1 => repeat (first | exact (Kd.C_below HR0.out HB.out) | (with_reducible refine Kd.C_alloc ?_ _) | (with_reducible refine Kd.C_drewN ?_ _) | (with_reducible refine Kd.C_drew ?_))); (case side2 => exact HC0.out); rintro e w25 ⟨v181, rfl, ho0, hb⟩; refine ⟨_, rfl, ?_⟩; have n0_ := Aside0.mk (Kd.R_elder' (by (with_reducible repeat (first | apply Kd.R_alloc | apply Kd.R_drewN | apply Kd.R_drew)); exact HO178.out) (Kd.R_base ho0) hb); have n1_ := Aside0.mk (Kd.R_lower (Kd.R_new' ho0 (Kd.R_lt (by (with_reducible repeat (first | apply Kd.R_alloc | apply Kd.R_drewN | apply Kd.R_drew)); exact HO178.out))) (below_size (by repeat (first | (with_reducible first | exact HB.out | apply below_alloc | apply pw_below_drewN | apply below_drew1) | exact HB.out)))); have n2_ := Aside0.mk (below_step (by repeat (first | (with_reducible first | exact HB.out | apply below_alloc | apply pw_below_drewN | apply below_drew1) | exact HB.out)) hb); clear HO178; clear HB; have HO178 := n0_; have HO182 := n1_; have HB := n2_; clear n0_ n1_ n2_; (try clear hb); (try clear hb2); (try clear hk); (try clear hi); (try clear ho0); obtain ⟨Ao26, co26, eo26⟩ := Kd.R_slice HO178.out; subst eo26; obtain ⟨Ao27, co27, eo27⟩ := Kd.R_slice HO182.out; subst eo27) | ((with_reducible refine gate_callee (f := 38) rfl ?_); refine goesL_ (some 35) rfl rfl Tryd.func38 (by kernel_rfl) rfl #[.slice Ao26 t175.length co26, .slice Ao27 t179.length co27] rfl (by (try simp only [List.map_toArray, List.map_cons, List.map_nil]); first | done | rfl | (simp only [List.length_drop, List.length_take]; rfl)) ?_; (with_reducible refine (estreatref08_Same.calls kj2 _ _ t175 _ _ t179 false _ ?side1 ?side2 ?side3 ?side4 A11.out).mono ?_); (case side1 => repeat (first | exact (Kd.R_reads' HO178.out).2.2 | (with_reducible refine Kd.C_alloc ?_ _) | (with_reducible refine Kd.C_drewN ?_ _) | (with_reducible refine Kd.C_drew ?_))); (case side2 => exact (Kd.R_reads' HO178.out).2.1); (case side3 => repeat (first | exact (Kd.R_reads' HO182.out).2.2 | (with_reducible refine Kd.C_alloc ?_ _) | (with_reducible refine Kd.C_drewN ?_ _) | (with_reducible refine Kd.C_drew ?_))); (case side4 => exact (Kd.R_reads' HO182.out).2.1); rintro e w' ⟨rfl, ⟨nd, rfl⟩⟩; refine ⟨_, rfl, ?_⟩))
          go_ret
          exact ⟨by first | rfl | (simp [errW_none, errW_some] <;> rfl) | (simp [*, errW_none, errW_some] <;> rfl), by repeat (first | (with_reducible first | exact HB.out | apply below_alloc | apply pw_below_drewN | apply below_drew1) | exact HB.out)⟩

/-- THE ONE PURE STATEMENT of estreatlaw09_RunsGets: yours. -/
def estreatlaw09_RunsGets.Pure : Prop := ∀ (l0 : List Int) (a1 : Int), l0.length ≤ maxLen → l0.length * 1 ≤ 140737488351232 → (∀ x ∈ l0, (Lit.int .u8 x).wf = true) → (Lit.int .i64 a1).wf = true → ∃ k, estreatlaw09_RunsGets.f k l0 a1 = some true
theorem estreatlaw09_RunsGets.walk (P : estreatlaw09_RunsGets.Pure) (a0 : Option Addr) (len0 cap0 : Nat) (z0 : List Int) (a1 : Int) (w : World) (w0 : (a0 = none ∧ len0 = 0 ∧ cap0 = 0 ∧ z0 = []) ∨ ∃ x, a0 = some x ∧ len0 ≤ cap0 ∧ cap0 ≤ maxLen ∧ z0.length = cap0 ∧ (∀ i, i < z0.length → w.cell? (x.add i) = some (.int .u8 (z0.getD i 0))) ∧ ∀ n ∈ z0, (Lit.int .u8 n).wf = true) (y0 : len0 * 1 ≤ 140737488351232) (w1 : (Lit.int .i64 a1).wf = true) (hG : HG w) :
    Calls Tryd.prog 8 #[.slice a0 len0 cap0, .int .i64 a1] w fun e w' => e = .returned (.bool true) ∧ Below w.heap.size w w' := by
  obtain ⟨l0, rfl, hr0, hm0, hw0, hc0⟩ := ReadsInt.ofRowC w0
  obtain ⟨k, h⟩ := P l0 a1 hm0 y0 hw0 w1
  refine (estreatlaw09_RunsGets.calls k _ _ l0 a1 true w (Kd.C_of_reads (d := (0 : Int)) (h1 := fun _ => rfl) hr0) hc0 hG h).mono ?_
  rintro e w' ⟨rfl, hd⟩
  exact ⟨rfl, hd⟩

end Go.Proofs.YtjmhfbgpebgcmaaDoor.PRunsGets
