-- WRITTEN BY A PROGRAM of this session (wip/tool: a turned copy of the printer), out of the translation
import Derived.Test.YtbjnfephigcdkaaPRunsPutsx0
namespace Go.Proofs.Ytbjnfephigcdkaa.PRunsPuts
open Go.RowKit Go.Proofs.YtbjnfephigcdkaaW.PrintWords Go.Proofs.YtbjnfephigcdkaaW.PrintLast Go.Proofs.YtbjnfephigcdkaaW.PrintMore
attribute [local go_sem] max2_int min2_int max_two min_two max_three min_three max_four min_four   -- for this text's walks alone
set_option linter.unusedVariables false
set_option linter.unusedSimpArgs false

/-! ### estreatref01_Same: function 17 -/
def estreatref01_Same.l0 : Nat → List Int → List Int → Int → Option (Bool)
  | 0, _, _, _ => none
  | k + 1, x0, x1, x5 => if x5 < (x0.length : Int) then (if 0 ≤ x5 then (if x5 < (x1.length : Int) then (if (rd x0 x5) = (rd x1 x5) then (estreatref01_Same.l0 k x0 x1 (wrap64 (x5 + 1))) else (some false)) else (none)) else (none)) else (some true)
def estreatref01_Same.f (k : Nat) (l0 : List Int) (l1 : List Int) : Option (Bool) := if (l0.length : Int) = (l1.length : Int) then (estreatref01_Same.l0 k l0 l1 0) else (some false)
theorem estreatref01_Same.mono_l : ∀ k, (∀ y0 y1 y2, LeO (estreatref01_Same.l0 k y0 y1 y2) (estreatref01_Same.l0 (k + 1) y0 y1 y2))
  | 0 => fun _ _ _ r h => by simp [estreatref01_Same.l0] at h
  | k + 1 => by
    have ih0 := estreatref01_Same.mono_l k
    · intro y0 y1 y2
      unfold estreatref01_Same.l0
      repeat' first
      | (with_reducible exact ih0 _ _ _)
      | (with_reducible exact LeO.refl _)
      | (with_reducible exact LeO.none _)
      | (with_reducible refine LeO.ite ?_ ?_)
      | (with_reducible refine LeO.bind ?_ (fun _ => ?_))
      | exact ih0 _ _ _
      | exact LeO.none _
      | refine LeO.ite ?_ ?_
      | refine LeO.bind ?_ (fun _ => ?_)
theorem estreatref01_Same.mono : ∀ a0 a1 k, LeO (estreatref01_Same.f k a0 a1) (estreatref01_Same.f (k + 1) a0 a1) := by
  intro a0 a1 k
  have ih0 := estreatref01_Same.mono_l k
  unfold estreatref01_Same.f
  repeat' first
      | (with_reducible exact ih0 _ _ _)
      | (with_reducible exact LeO.refl _)
      | (with_reducible exact LeO.none _)
      | (with_reducible refine LeO.ite ?_ ?_)
      | (with_reducible refine LeO.bind ?_ (fun _ => ?_))
      | exact ih0 _ _ _
      | exact LeO.none _
      | refine LeO.ite ?_ ?_
      | refine LeO.bind ?_ (fun _ => ?_)
set_option maxHeartbeats 8000000 in
set_option maxRecDepth 100000 in
theorem estreatref01_Same.calls (k : Nat) (A0 : Option Addr) (c0 : Nat) (l0 : List Int) (A1 : Option Addr) (c1 : Nat) (l1 : List Int) (r : Bool) (w : World) (hr0 : Kd.C (Kd.int .u8) w A0 l0.length l0) (hc0 : l0.length ≤ c0) (hr1 : Kd.C (Kd.int .u8) w A1 l1.length l1) (hc1 : l1.length ≤ c1) (h : estreatref01_Same.f k l0 l1 = some r) :
    Calls Try.prog 17 #[.slice A0 l0.length c0, .slice A1 l1.length c1] w fun e w' => e = .returned (.bool r) ∧ Drawn0 w w' := by
  have HR0 := Aside0.mk hr0
  have HC0 := Aside0.mk hc0
  clear hr0 hc0
  have HR1 := Aside0.mk hr1
  have HC1 := Aside0.mk hc1
  clear hr1 hc1
  have H : (if (l0.length : Int) = (l1.length : Int) then (estreatref01_Same.l0 k l0 l1 0) else (some false)) = some r := h
  clear h
  by_cases c3 : (l0.length : Int) = (l1.length : Int)
  · rw [if_pos c3] at H
    have c3b0 : ((l0.length : Int) == (l1.length : Int)) = true := beq_iff_eq.mpr c3
    have c3b1 : ((l0.length : Int) != (l1.length : Int)) = false := bne_eq_false_iff_eq.mpr c3
    have c3b2 : (l0.length == l1.length) = true := by first | simpa using c3 | (simp at c3 ⊢; omega)
    clear c3
    have H' := Aside0.mk H
    clear H
    go_enter Try.func17, Try.ntmps17
    go_wp2
    repeat (go_quiet (fail); try go_wp2)
    go_loopg [5] k (fun kq v5 w' => ∃ (x5_1 : Int), v5 = .int .i64 x5_1 ∧ Aside0 (estreatref01_Same.l0 kq l0 l1 x5_1 = some r) ∧ Aside0 (kq ≤ k) ∧ Drawn0 w w')
    case atStart => exact ⟨(0), (by first | rfl | (simp; done) | (simp [*]; done)), H', ⟨Nat.le_refl _⟩, by repeat (first | exact Drawn0.refl _ | apply Drawn0.step)⟩
    case round =>
      clear H'
      try clear c1
      try clear p2
      try clear c3
      try clear c3b0
      try clear c3b1
      try clear c3b2
      obtain ⟨x5_1, rfl, HA, HK1, ⟨m1, rfl⟩⟩ := hrel
      cases gk with
      | zero => exact absurd HA.out (by simp [estreatref01_Same.l0])
      | succ k1 =>
        have H := HA.out
        clear HA
        simp only [estreatref01_Same.l0] at H
        by_cases c4 : x5_1 < (l0.length : Int)
        · rw [if_pos c4] at H
          have c4b0 : decide (x5_1 < (l0.length : Int)) = true := decide_eq_true c4
          clear c4
          by_cases c5 : 0 ≤ x5_1
          · rw [if_pos c5] at H
            have c5b0 : decide (0 ≤ x5_1) = true := decide_eq_true c5
            clear c5
            by_cases c6 : x5_1 < (l1.length : Int)
            · rw [if_pos c6] at H
              have c6b0 : decide (x5_1 < (l1.length : Int)) = true := decide_eq_true c6
              clear c6
              by_cases c7 : (rd l0 x5_1) = (rd l1 x5_1)
              · rw [if_pos c7] at H
                have c7b0 : ((rd l0 x5_1) == (rd l1 x5_1)) = true := beq_iff_eq.mpr c7
                have c7b1 : ((rd l0 x5_1) != (rd l1 x5_1)) = false := bne_eq_false_iff_eq.mpr c7
                clear c7
                have H' := Aside0.mk H
                clear H
                have p101 : 0 ≤ (x5_1 : Int) := of_decide_eq_true (by first | (with_reducible assumption) | assumption)
                have q101 : x5_1 < (l0.length : Int) := of_decide_eq_true (by first | (with_reducible assumption) | assumption)
                obtain ⟨ad101, e101, hx101_0⟩ := Kd.at_int HR0.out x5_1 p101 q101
                cases e101
                replace p101 := eq_true p101
                replace q101 := eq_true q101
                have p102 : 0 ≤ (x5_1 : Int) := of_decide_eq_true (by first | (with_reducible assumption) | assumption)
                have q102 : x5_1 < (l1.length : Int) := of_decide_eq_true (by first | (with_reducible assumption) | assumption)
                obtain ⟨ad102, e102, hx102_0⟩ := Kd.at_int HR1.out x5_1 p102 q102
                cases e102
                replace p102 := eq_true p102
                replace q102 := eq_true q102
                go_wp2
                repeat (go_quiet (fail); try go_wp2)
                go_roundg k1
                case measure => have := HK1.out; omega
                case rel => exact ⟨(wrap64 (x5_1 + 1)), (by first | rfl | (simp; done) | (simp [*]; done)), H', ⟨by have := HK1.out; omega⟩, by repeat (first | exact Drawn0.refl _ | apply Drawn0.step)⟩
              · rw [if_neg c7] at H
                have c7b0 : ((rd l0 x5_1) == (rd l1 x5_1)) = false := beq_eq_false_iff_ne.mpr c7
                have c7b1 : ((rd l0 x5_1) != (rd l1 x5_1)) = true := bne_iff_ne.mpr c7
                obtain rfl := Option.some.inj H
                have p101 : 0 ≤ (x5_1 : Int) := of_decide_eq_true (by first | (with_reducible assumption) | assumption)
                have q101 : x5_1 < (l0.length : Int) := of_decide_eq_true (by first | (with_reducible assumption) | assumption)
                obtain ⟨ad101, e101, hx101_0⟩ := Kd.at_int HR0.out x5_1 p101 q101
                cases e101
                replace p101 := eq_true p101
                replace q101 := eq_true q101
                have p102 : 0 ≤ (x5_1 : Int) := of_decide_eq_true (by first | (with_reducible assumption) | assumption)
                have q102 : x5_1 < (l1.length : Int) := of_decide_eq_true (by first | (with_reducible assumption) | assumption)
                obtain ⟨ad102, e102, hx102_0⟩ := Kd.at_int HR1.out x5_1 p102 q102
                cases e102
                replace p102 := eq_true p102
                replace q102 := eq_true q102
                go_wp2
                repeat (go_quiet (fail); try go_wp2)
                go_ret
                exact ⟨by first | rfl | (simp; done) | (simp [*]; done), by repeat (first | exact Drawn0.refl _ | apply Drawn0.step)⟩
            · rw [if_neg c6] at H
              exact absurd H (by simp)
          · rw [if_neg c5] at H
            exact absurd H (by simp)
        · rw [if_neg c4] at H
          have c4b0 : decide (x5_1 < (l0.length : Int)) = false := decide_eq_false c4
          clear c4
          obtain rfl := Option.some.inj H
          go_wp2
          repeat (go_quiet (fail); try go_wp2)
          go_ret
          exact ⟨by first | rfl | (simp; done) | (simp [*]; done), by repeat (first | exact Drawn0.refl _ | apply Drawn0.step)⟩
  · rw [if_neg c3] at H
    have c3b0 : ((l0.length : Int) == (l1.length : Int)) = false := beq_eq_false_iff_ne.mpr c3
    have c3b1 : ((l0.length : Int) != (l1.length : Int)) = true := bne_iff_ne.mpr c3
    have c3b2 : (l0.length == l1.length) = false := by first | simpa using c3 | (simp at c3 ⊢; omega)
    obtain rfl := Option.some.inj H
    go_enter Try.func17, Try.ntmps17
    go_wp2
    repeat (go_quiet (fail); try go_wp2)
    go_ret
    exact ⟨by first | rfl | (simp; done) | (simp [*]; done), by repeat (first | exact Drawn0.refl _ | apply Drawn0.step)⟩

/-! ### num_PutVar: function 18 -/
def num_PutVar.l0 : Nat → List Int → Int → Option (List Int)
  | 0, _, _ => none
  | k + 1, x0, x1 => if x1 ≥ 128 then (if x0.length < 140737488355328 then (num_PutVar.l0 k (x0 ++ [Go.bits .or .u8 ((x1) % 256) 128]) (x1 / 128)) else (none)) else (if x0.length < 140737488355328 then (some (x0 ++ [(x1) % 256])) else (none))
def num_PutVar.f (k : Nat) (l0 : List Int) (a1 : Int) : Option (List Int) := num_PutVar.l0 k l0 a1
theorem num_PutVar.mono_l : ∀ k, (∀ y0 y1, LeO (num_PutVar.l0 k y0 y1) (num_PutVar.l0 (k + 1) y0 y1))
  | 0 => fun _ _ r h => by simp [num_PutVar.l0] at h
  | k + 1 => by
    have ih0 := num_PutVar.mono_l k
    · intro y0 y1
      unfold num_PutVar.l0
      repeat' first
      | (with_reducible exact ih0 _ _)
      | (with_reducible exact LeO.refl _)
      | (with_reducible exact LeO.none _)
      | (with_reducible refine LeO.ite ?_ ?_)
      | (with_reducible refine LeO.bind ?_ (fun _ => ?_))
      | exact ih0 _ _
      | exact LeO.none _
      | refine LeO.ite ?_ ?_
      | refine LeO.bind ?_ (fun _ => ?_)
theorem num_PutVar.mono : ∀ a0 a1 k, LeO (num_PutVar.f k a0 a1) (num_PutVar.f (k + 1) a0 a1) := by
  intro a0 a1 k
  have ih0 := num_PutVar.mono_l k
  unfold num_PutVar.f
  repeat' first
      | (with_reducible exact ih0 _ _)
      | (with_reducible exact LeO.refl _)
      | (with_reducible exact LeO.none _)
      | (with_reducible refine LeO.ite ?_ ?_)
      | (with_reducible refine LeO.bind ?_ (fun _ => ?_))
      | exact ih0 _ _
      | exact LeO.none _
      | refine LeO.ite ?_ ?_
      | refine LeO.bind ?_ (fun _ => ?_)
set_option maxHeartbeats 8000000 in
set_option maxRecDepth 100000 in
theorem num_PutVar.calls (k : Nat) (P0_ : Nat → Prop) (u9000_ : Value) (l0 : List Int) (a1 : Int) (r : List Int) (w0 w : World) (hB : Below w0.heap.size w0 w) (ho0 : Kd.R (Kd.int .u8) 5 w w0.heap.size P0_ u9000_ l0) (h : num_PutVar.f k l0 a1 = some r) :
    Calls Try.prog 18 #[u9000_, .int .u64 a1] w fun e w' => ∃ v0_ : Value, e = .returned (v0_) ∧ Kd.R (Kd.int .u8) 5 w' w0.heap.size (fun k_ => (P0_ k_ ∨ w.heap.size ≤ k_)) v0_ r ∧ Below w0.heap.size w0 w' ∧ Kept w w' (fun k_ => P0_ k_) := by
  have HO0 := Aside0.mk (show Kd.R (Kd.int .u8) 5 w w0.heap.size (fun k_ => (P0_ k_ ∨ w.heap.size ≤ k_)) u9000_ l0 from Kd.R_mono ho0 (fun k_ hk => (.inl hk)))
  have HK := Aside0.mk (Kept.refl w (fun k_ => P0_ k_))
  have HW0 := Aside0.mk hB.size
  have HB := Aside0.mk hB
  clear hB
  have H : (num_PutVar.l0 k l0 a1) = some r := h
  clear h
  have H' := Aside0.mk H
  clear H
  go_enter Try.func18, Try.ntmps18
  go_wp2
  go_loopg [0, 1] k (fun kq v0 v1 w' => ∃ (x0_1 : List Int) (x1_1 : Int), v1 = .int .u64 x1_1 ∧ Aside0 (num_PutVar.l0 kq x0_1 x1_1 = some r) ∧ Aside0 (kq ≤ k) ∧ Aside0 (Kd.R (Kd.int .u8) 5 w' w0.heap.size (fun k_ => (P0_ k_ ∨ w.heap.size ≤ k_)) v0 x0_1) ∧ Aside0 (Kept w w' (fun k_ => P0_ k_)) ∧ Aside0 (Below w0.heap.size w0 w'))
  case atStart => exact ⟨(l0), (a1), (by first | rfl | (simp; done) | (simp [*]; done)), H', ⟨Nat.le_refl _⟩, ⟨by (with_reducible repeat (first | apply Kd.R_alloc | apply Kd.R_drewN | apply Kd.R_drew)); exact HO0.out⟩, ⟨by repeat (first | (with_reducible first | exact HK.out | apply Kept.alloc | apply Kept.drewN | apply Kept.drew) | exact HK.out)⟩, ⟨by repeat (first | (with_reducible first | exact HB.out | apply below_alloc | apply pw_below_drewN | apply below_drew1) | exact HB.out)⟩⟩
  case round =>
    clear H'
    try clear c1
    try clear p2
    obtain ⟨x0_1, x1_1, rfl, HA, HK1, HO_0, HK, HB⟩ := hrel
    cases gk with
    | zero => exact absurd HA.out (by simp [num_PutVar.l0])
    | succ k1 =>
      have H := HA.out
      clear HA
      simp only [num_PutVar.l0] at H
      by_cases c3 : x1_1 ≥ 128
      · rw [if_pos c3] at H
        have c3b0 : decide (128 ≤ x1_1) = true := decide_eq_true c3
        clear c3
        by_cases c4 : x0_1.length < 140737488355328
        · rw [if_pos c4] at H
          have LMc4 := Aside0.mk c4
          clear c4
          obtain ⟨y103, hy103⟩ : ∃ y_ : List Int, y_ = (x0_1 ++ [Go.bits .or .u8 ((x1_1) % 256) 128]) := ⟨_, rfl⟩
          replace H : (num_PutVar.l0 k1 y103 (x1_1 / 128)) = some r := by first | (rw [hy103]; with_reducible exact H) | (have H2_ := (Option.bind_some _ _).symm.trans H; rw [hy103]; with_reducible exact H2_) | (have H2_ := (Option.bind_some _ _).symm.trans H; with_reducible exact H2_) | with_reducible exact H | (rw [hy103]; exact H) | exact H
          have Ny103 := Aside0.mk hy103
          clear hy103
          have H' := Aside0.mk H
          clear H
          go_wp2_with (first | ((with_reducible refine gate_builtin (b := .append) (xs := #[.tmp 9, .tmp 13]) rfl ?_); at_builtin; refine Kd.R_append (Kd.int .u8) (w0 := w0) w0.heap.size rfl (.tmp 9) (.tmp 13) 22 5 (.int .u8 0) 1 rfl Try.underlying22 info5 rfl (by decide) (by omega) u0 x0_1 (Go.bits .or .u8 ((x1_1) % 256) 128) [.int .u8 (Go.bits .or .u8 ((x1_1) % 256) 128)] (fun k_ => (P0_ k_ ∨ w.heap.size ≤ k_)) (fun _ => False) rfl rfl ?aP (fun _ hk => hk.elim) ?aF ?aO ?aB ?aS ?aL ?_; (case aP => exact rfl); (case aB => exact (by repeat (first | (with_reducible first | exact HB.out | apply below_alloc | apply pw_below_drewN | apply below_drew1) | exact HB.out))); (case aF => exact (fun k_ hk => (.inr (Nat.le_trans (by first | exact HK.out.1 | exact (show Kept w _ (fun k_ => P0_ k_) from by repeat (first | (with_reducible first | exact HK.out | apply Kept.alloc | apply Kept.drewN | apply Kept.drew) | exact HK.out)).1) hk)))); (case aO => exact (by (with_reducible repeat (first | apply Kd.R_alloc | apply Kd.R_drewN | apply Kd.R_drew)); exact HO_0.out)); (case aS => exact (below_size (by repeat (first | (with_reducible first | exact HB.out | apply below_alloc | apply pw_below_drewN | apply below_drew1) | exact HB.out)))); (case aL => have := LMc4.out; omega); intro v104 w5 ho hb hg hat; rw [← Ny103.out] at ho; have n0_ := Aside0.mk (hb); have n1_ := Aside0.mk (Kept.of_grown (S := (fun k_ => P0_ k_)) hg (by repeat (first | (with_reducible first | exact HK.out | apply Kept.alloc | apply Kept.drewN | apply Kept.drew) | exact HK.out)) (fun k_ e_ => (HO_0.out.1 k_ e_))); have n2_ := Aside0.mk (ho); clear HB; clear HK; clear HO_0; have HB := n0_; have HK := n1_; have HO105 := n2_; clear n0_ n1_ n2_; clear ho hb hg hat))
          go_roundg k1
          case measure => have := HK1.out; omega
          case rel => exact ⟨(y103), (x1_1 / 128), (by first | rfl | (simp; done) | (simp [*]; done)), H', ⟨by have := HK1.out; omega⟩, ⟨by (with_reducible repeat (first | apply Kd.R_alloc | apply Kd.R_drewN | apply Kd.R_drew)); exact HO105.out⟩, ⟨by repeat (first | (with_reducible first | exact HK.out | apply Kept.alloc | apply Kept.drewN | apply Kept.drew) | exact HK.out)⟩, ⟨by repeat (first | (with_reducible first | exact HB.out | apply below_alloc | apply pw_below_drewN | apply below_drew1) | exact HB.out)⟩⟩
        · rw [if_neg c4] at H
          exact absurd H (by simp)
      · rw [if_neg c3] at H
        have c3b0 : decide (128 ≤ x1_1) = false := decide_eq_false c3
        clear c3
        by_cases c6 : x0_1.length < 140737488355328
        · rw [if_pos c6] at H
          have LMc6 := Aside0.mk c6
          clear c6
          obtain ⟨y106, hy106⟩ : ∃ y_ : List Int, y_ = (x0_1 ++ [(x1_1) % 256]) := ⟨_, rfl⟩
          replace H : (some y106) = some r := by first | (rw [hy106]; with_reducible exact H) | (have H2_ := (Option.bind_some _ _).symm.trans H; rw [hy106]; with_reducible exact H2_) | (have H2_ := (Option.bind_some _ _).symm.trans H; with_reducible exact H2_) | with_reducible exact H | (rw [hy106]; exact H) | exact H
          have Ny106 := Aside0.mk hy106
          clear hy106
          obtain rfl := Option.some.inj H
          go_wp2_with (first | ((with_reducible refine gate_builtin (b := .append) (xs := #[.tmp 15, .tmp 18]) rfl ?_); at_builtin; refine Kd.R_append (Kd.int .u8) (w0 := w0) w0.heap.size rfl (.tmp 15) (.tmp 18) 22 5 (.int .u8 0) 1 rfl Try.underlying22 info5 rfl (by decide) (by omega) u0 x0_1 ((x1_1) % 256) [.int .u8 ((x1_1) % 256)] (fun k_ => (P0_ k_ ∨ w.heap.size ≤ k_)) (fun _ => False) rfl rfl ?aP (fun _ hk => hk.elim) ?aF ?aO ?aB ?aS ?aL ?_; (case aP => exact rfl); (case aB => exact (by repeat (first | (with_reducible first | exact HB.out | apply below_alloc | apply pw_below_drewN | apply below_drew1) | exact HB.out))); (case aF => exact (fun k_ hk => (.inr (Nat.le_trans (by first | exact HK.out.1 | exact (show Kept w _ (fun k_ => P0_ k_) from by repeat (first | (with_reducible first | exact HK.out | apply Kept.alloc | apply Kept.drewN | apply Kept.drew) | exact HK.out)).1) hk)))); (case aO => exact (by (with_reducible repeat (first | apply Kd.R_alloc | apply Kd.R_drewN | apply Kd.R_drew)); exact HO_0.out)); (case aS => exact (below_size (by repeat (first | (with_reducible first | exact HB.out | apply below_alloc | apply pw_below_drewN | apply below_drew1) | exact HB.out)))); (case aL => have := LMc6.out; omega); intro v107 w7 ho hb hg hat; rw [← Ny106.out] at ho; have n0_ := Aside0.mk (hb); have n1_ := Aside0.mk (Kept.of_grown (S := (fun k_ => P0_ k_)) hg (by repeat (first | (with_reducible first | exact HK.out | apply Kept.alloc | apply Kept.drewN | apply Kept.drew) | exact HK.out)) (fun k_ e_ => (HO_0.out.1 k_ e_))); have n2_ := Aside0.mk (ho); clear HB; clear HK; clear HO_0; have HB := n0_; have HK := n1_; have HO108 := n2_; clear n0_ n1_ n2_; clear ho hb hg hat))
          go_ret
          exact ⟨_, by first | rfl | (simp [errW_none, errW_some] <;> rfl) | (simp [*, errW_none, errW_some] <;> rfl), by (with_reducible repeat (first | apply Kd.R_alloc | apply Kd.R_drewN | apply Kd.R_drew)); exact HO108.out, by repeat (first | (with_reducible first | exact HB.out | apply below_alloc | apply pw_below_drewN | apply below_drew1) | exact HB.out), by repeat (first | (with_reducible first | exact HK.out | apply Kept.alloc | apply Kept.drewN | apply Kept.drew) | exact HK.out)⟩
        · rw [if_neg c6] at H
          exact absurd H (by simp)

/-! ### num_Zig: function 24 -/
def num_Zig.f (a0 : Int) : Option (Int) := some (Go.bits .xor .u64 (IntKind.u64.wrap ((IntKind.u64.wrap (a0)) * 2)) (IntKind.u64.wrap (a0 / 9223372036854775808)))
set_option maxHeartbeats 8000000 in
set_option maxRecDepth 100000 in
theorem num_Zig.calls (a0 : Int) (r : Int) (w : World) (h : num_Zig.f a0 = some r) :
    Calls Try.prog 24 #[.int .i64 a0] w fun e w' => e = .returned (.int .u64 r) ∧ Drawn0 w w' := by
  have H : (some (Go.bits .xor .u64 (IntKind.u64.wrap ((IntKind.u64.wrap (a0)) * 2)) (IntKind.u64.wrap (a0 / 9223372036854775808)))) = some r := h
  clear h
  obtain rfl := Option.some.inj H
  go_enter Try.func24, Try.ntmps24
  go_wp2
  go_ret
  exact ⟨by first | rfl | (simp; done) | (simp [*]; done), by repeat (first | exact Drawn0.refl _ | apply Drawn0.step)⟩

/-! ### runs_each: function 62 -/
section
open Go.Shelf
attribute [local go_sem] Oper.semAt_some
/-- the runs of numbers: a number, and how often -/
def runsOf : List Int → List (Int × Nat)
  | [] => []
  | x :: l => match runsOf l with
    | [] => [(x, 1)]
    | (y, k) :: r => if x = y then (y, k + 1) :: r else (x, 1) :: (y, k) :: r
theorem runsOf_cons_ne (x y : Int) (l : List Int) (h : x ≠ y) : runsOf (x :: y :: l) = (x, 1) :: runsOf (y :: l) := by
  have hne : ∃ k r, runsOf (y :: l) = (y, k) :: r := by
    unfold runsOf
    split
    · exact ⟨_, _, rfl⟩
    · rename_i z k r he
      by_cases e : y = z
      · rw [if_pos e]; subst e; exact ⟨_, _, rfl⟩
      · rw [if_neg e]; exact ⟨_, _, rfl⟩
  obtain ⟨k, r, he⟩ := hne
  rw [runsOf, he]
  simp only [if_neg h]
theorem runsOf_head (y : Int) (l : List Int) : ∃ k r, runsOf (y :: l) = (y, k) :: r := by
  unfold runsOf
  split
  · exact ⟨_, _, rfl⟩
  · rename_i z k r he
    by_cases e : y = z
    · rw [if_pos e]; subst e; exact ⟨_, _, rfl⟩
    · rw [if_neg e]; exact ⟨_, _, rfl⟩
/-- a run: what stands at its head, how long it is, what follows -/
theorem runsOf_run (x : Int) (l : List Int) (h : ∀ y r, l = y :: r → y ≠ x) : ∀ k : Nat, runsOf (List.replicate (k + 1) x ++ l) = (x, k + 1) :: runsOf l := by
  intro k
  induction k with
  | zero =>
    cases l with
    | nil => rfl
    | cons y r => exact runsOf_cons_ne x y r (fun e => h y r rfl e.symm)
  | succ k ih =>
    rw [List.replicate_succ, List.cons_append, runsOf, ih]
    simp only [if_true]
theorem runsOf_at (zs : List Int) (a b : Nat) (hab : a < b) (hb : b ≤ zs.length) (hall : ∀ j, a ≤ j → j < b → zs[j]?.getD 0 = zs[a]?.getD 0) (hend : b < zs.length → zs[b]?.getD 0 ≠ zs[a]?.getD 0) :
    runsOf (zs.drop a) = (zs[a]?.getD 0, b - a) :: runsOf (zs.drop b) := by
  have e : zs.drop a = List.replicate (b - a - 1 + 1) (zs[a]?.getD 0) ++ zs.drop b := by
    apply List.ext_getElem
    · simp; omega
    · intro i h1 h2
      simp only [List.getElem_drop]
      by_cases hi : i < b - a
      · rw [List.getElem_append_left (by simp; omega), List.getElem_replicate]
        have := hall (a + i) (by omega) (by omega)
        simp only [List.length_drop] at h1
        rw [List.getElem?_eq_getElem (by omega)] at this
        exact this
      · rw [List.getElem_append_right (by simp; omega), List.getElem_drop]
        congr 1
        simp; omega
  have e2 : b - a - 1 + 1 = b - a := by omega
  rw [e, runsOf_run _ _ _, e2]
  intro y r he hy
  have hlt : b < zs.length := by
    refine Classical.byContradiction fun hc => ?_
    rw [List.drop_of_length_le (by omega)] at he; cases he
  rw [List.drop_eq_getElem_cons hlt] at he
  injection he with h1 _
  refine hend hlt ?_
  rw [List.getElem?_eq_getElem hlt]
  show zs[b] = _
  rw [h1, hy]
theorem runsOf_length : ∀ l : List Int, (runsOf l).length ≤ l.length := by
  intro l
  induction l with
  | nil => exact Nat.le_refl _
  | cons x l ih =>
    rw [runsOf]
    split
    · simp
    · rename_i y k r he
      rw [he] at ih
      by_cases h : x = y
      · rw [if_pos h]; simp only [List.length_cons] at ih ⊢; omega
      · rw [if_neg h]; simp only [List.length_cons] at ih ⊢; omega
theorem below_drewN_ {B : Nat} {w W : World} (h : Below B w W) (n : Nat) : Below B w (W.drewN n) := ⟨h.os, h.tape, h.output, h.size, h.block⟩
theorem grown_drewN_ (W : World) (n : Nat) : W.grownBy (W.drewN n) none := ⟨rfl, rfl, rfl, Nat.le_refl _, fun _ _ _ => rfl⟩
/-- below n₀ no block but B₀ has turned -/
def Same (n₀ B₀ : Nat) (W W' : World) : Prop := ∀ k, k < n₀ → k ≠ B₀ → W'.heap[k]? = W.heap[k]?
theorem Same.refl (n₀ B₀ : Nat) (W : World) : Same n₀ B₀ W W := fun _ _ _ => rfl
theorem Same.trans {n₀ B₀ : Nat} {A B C : World} (h : Same n₀ B₀ A B) (k : Same n₀ B₀ B C) : Same n₀ B₀ A C := fun j h1 h2 => (k j h1 h2).trans (h j h1 h2)
theorem Same.drewN {n₀ B₀ : Nat} {A B : World} (h : Same n₀ B₀ A B) (m : Nat) : Same n₀ B₀ A (B.drewN m) := h
theorem Same.cell {n₀ B₀ : Nat} {A B : World} (h : Same n₀ B₀ A B) {b o : Nat} (hb : b < n₀ ∧ b ≠ B₀) : B.cell? ⟨b, o, none⟩ = A.cell? ⟨b, o, none⟩ := by
  unfold World.cell?; simp only [h b hb.1 hb.2]
/-- all from a on, below c, are as the one at a -/
def Likes (zs : List Int) (a c : Nat) : Prop := ∀ j, a ≤ j → j < c → zs[j]?.getD 0 = zs[a]?.getD 0
theorem likes_one (zs : List Int) (a : Nat) : Likes zs a (a + 1) := fun j h1 h2 => by
  have : j = a := by omega
  rw [this]
theorem likes_succ {zs : List Int} {a c : Nat} (h : Likes zs a c) (he : zs[c]?.getD 0 = zs[a]?.getD 0) : Likes zs a (c + 1) := fun j h1 h2 => by
  rcases Nat.lt_succ_iff_lt_or_eq.1 h2 with h3 | h3
  · exact h j h1 h3
  · rw [h3]; exact he
set_option maxRecDepth 100000 in
set_option maxHeartbeats 4000000 in
theorem each1_in (q : Int × Nat → Prop) (n : Nat) (hn : 1 ≤ n) (l Bs n₀ B₀ b off cap : Nat) (zs : List Int) (hq : ∀ y ∈ runsOf zs, q y) (hreach : zs.length * 8 ≤ 140737488351232) (hb : b < n₀ ∧ b ≠ B₀) (J Jx : List (Int × Nat) → World → Prop) (W : World) (hJ : AbidesFrom W.heap.size J)
    (hY : ∀ pre x W, q x → J pre W → pre.length < zs.length → YieldAt Fence.wide (n - 1) Try.prog l #[.int .i64 x.1, .int .i64 (x.2 : Int)] W fun e W' =>
      (e = .returned (.bool true) ∧ J (pre ++ [x]) W' ∧ Same n₀ B₀ W W') ∨ (e = .returned (.bool false) ∧ Jx (pre ++ [x]) W'))
    (hBs : (Bs < n₀ ∧ Bs ≠ B₀) ∧ W.cell? ⟨Bs, 0, none⟩ = some (.slice (some ⟨b, off, none⟩) zs.length cap)) (hc : ∀ j, j < zs.length → W.cell? ⟨b, off + j, none⟩ = some (.int .i64 (zs[j]?.getD 0))) (h0 : J [] W) :
    CallsIn Fence.wide n Try.prog 69 #[.func (.yield l) #[] #[], .pointer (some ⟨Bs, 0, none⟩)] W fun e W' => (∃ v, e = .returned v) ∧
      ((∃ ys, ys = runsOf zs ∧ J ys W') ∨ (∃ pre, pre <+: runsOf zs ∧ Jx pre W')) := by
  have hJd : ∀ pre W1 m, J pre W1 → J pre (W1.drewN m) := fun pre W1 m h => hJ pre _ _ none h (grown_drewN_ W1 m) (fun r e => by cases e)
  refine callsIn_of_wp Try.func69 rfl trivial ?_ rfl
  simp only [Try.ntmps69, List.size_toArray, List.length_cons, List.length_nil, Nat.reduceAdd, Nat.reduceSub, Array.replicate_succ, Array.replicate_zero, List.push_toArray, List.append_toArray, List.nil_append, List.cons_append]
  gi_wp2
  gi_loopw [3] (fun i wr => ∃ (a : Nat) (pre : List (Int × Nat)), a ≤ zs.length ∧ i = .int .i64 a ∧ runsOf zs = pre ++ runsOf (zs.drop a) ∧ J pre wr ∧ Same n₀ B₀ W wr)
    (fun i _ => zs.length - (intOf i).toNat)
  case atStart => exact ⟨0, [], Nat.zero_le _, rfl, by simp, h0, Same.refl _ _ _⟩
  case round =>
    obtain ⟨a, pre, ha, rfl, hruns, hJs, hnx⟩ := hrel
    have hBr : wr.cell? ⟨Bs, 0, none⟩ = some (.slice (some ⟨b, off, none⟩) zs.length cap) := (hnx.cell (b := Bs) (o := 0) hBs.1).trans hBs.2
    by_cases hlt : a < zs.length
    · gi_wp2
      gi_loopw [4] (fun q wq => ∃ (c : Nat), a < c ∧ c ≤ zs.length ∧ q = .int .i64 c ∧ Likes zs a c ∧ J pre wq ∧ Same n₀ B₀ W wq)
        (fun q _ => zs.length - (intOf q).toNat)
      case atStart => exact ⟨a + 1, by omega, by omega, by simp, likes_one zs a, hJs, hnx⟩
      case round =>
        obtain ⟨c, hac, hcl, rfl, hall, hJq, hnq⟩ := hrel
        have hBq : wr.cell? ⟨Bs, 0, none⟩ = some (.slice (some ⟨b, off, none⟩) zs.length cap) := (hnq.cell (b := Bs) (o := 0) hBs.1).trans hBs.2
        have hca : wr.cell? ⟨b, off + a, none⟩ = some (.int .i64 (zs[a]?.getD 0)) := (hnq.cell (b := b) (o := off + a) hb).trans (hc a hlt)
        by_cases hcz : c < zs.length
        · have hcc : wr.cell? ⟨b, off + c, none⟩ = some (.int .i64 (zs[c]?.getD 0)) := (hnq.cell (b := b) (o := off + c) hb).trans (hc c hcz)
          by_cases heq : zs[c] = zs[a]
          · have heqb : (zs[c] == zs[a]) = true := by simp [heq]
            have hlk : Likes zs a (c + 1) := likes_succ hall (by rw [List.getElem?_eq_getElem hcz, List.getElem?_eq_getElem hlt]; exact heq)
            clear heq
            gi_wp2
            refine wpIn_wide.2 ?_
            go_quiet (fail)
            gi_wp2
            exact ⟨⟨c + 1, by omega, by omega, by simp, hlk, hJd _ _ _ hJq, hnq.drewN _⟩, by simp [intOf]; omega⟩
          · have heqb : (zs[c] == zs[a]) = false := by simp [heq]
            have hrun := runsOf_at zs a c hac hcl hall (fun h => by rw [List.getElem?_eq_getElem hcz, List.getElem?_eq_getElem hlt]; exact heq)
            rw [List.getElem?_eq_getElem hlt] at hrun
            have hrun : runsOf (zs.drop a) = (zs[a], c - a) :: runsOf (zs.drop c) := hrun
            have hpl : pre.length < zs.length := by
              have := runsOf_length zs
              rw [hruns, hrun, List.length_append, List.length_cons] at this; omega
            clear heq
            gi_wp2
            refine wpIn_wide.2 ?_
            go_quiet (fail)
            obtain ⟨fn, tmps, assign, body, hy, hR⟩ := hY pre (zs[a], c - a) (wr.drewN nq) (hq _ (by rw [hruns, hrun]; simp)) (hJd _ _ _ hJq) hpl
            have ecast : ((c - a : Nat) : Int) = (c : Int) - (a : Int) := by omega
            dsimp only at hy
            rw [ecast] at hy
            gi_wp2
            refine hR.mono ?_
            rintro e W3 (⟨rfl, hJ3, hk3⟩ | ⟨rfl, hJx3⟩)
            · gi_wp2
              go_roundw
              case rel => exact ⟨c, pre ++ [(zs[a], c - a)], by omega, rfl, by rw [List.append_assoc]; rw [hruns, hrun]; rfl, hJ3, (hnq.drewN _).trans hk3⟩
              case measure => simp [intOf]; omega
            · gi_wp2
              refine bodyPost_ret (results_none rfl _ _ _) rfl ?_
              exact ⟨⟨_, rfl⟩, .inr ⟨pre ++ [(zs[a], c - a)], ⟨_, by rw [hruns, hrun, List.append_assoc]; rfl⟩, hJx3⟩⟩
        · obtain rfl : c = zs.length := by omega
          have hrun := runsOf_at zs a zs.length hac hcl hall (fun h => absurd h (by omega))
          rw [List.getElem?_eq_getElem hlt] at hrun
          have hrun : runsOf (zs.drop a) = (zs[a], zs.length - a) :: runsOf (zs.drop zs.length) := hrun
          have hpl : pre.length < zs.length := by
            have := runsOf_length zs
            rw [hruns, hrun, List.length_append, List.length_cons] at this; omega
          clear hcz
          gi_wp2
          refine wpIn_wide.2 ?_
          go_quiet (fail)
          obtain ⟨fn, tmps, assign, body, hy, hR⟩ := hY pre (zs[a], zs.length - a) (wr.drewN nq) (hq _ (by rw [hruns, hrun]; simp)) (hJd _ _ _ hJq) hpl
          have ecast : ((zs.length - a : Nat) : Int) = (zs.length : Int) - (a : Int) := by omega
          dsimp only at hy
          rw [ecast] at hy
          gi_wp2
          refine hR.mono ?_
          rintro e W3 (⟨rfl, hJ3, hk3⟩ | ⟨rfl, hJx3⟩)
          · gi_wp2
            go_roundw
            case rel => exact ⟨zs.length, pre ++ [(zs[a], zs.length - a)], by omega, rfl, by rw [List.append_assoc]; rw [hruns, hrun]; rfl, hJ3, (hnq.drewN _).trans hk3⟩
            case measure => simp [intOf]; omega
          · gi_wp2
            refine bodyPost_ret (results_none rfl _ _ _) rfl ?_
            exact ⟨⟨_, rfl⟩, .inr ⟨pre ++ [(zs[a], zs.length - a)], ⟨_, by rw [hruns, hrun, List.append_assoc]; rfl⟩, hJx3⟩⟩
    · obtain rfl : a = zs.length := by omega
      gi_wp2
      go_end0
      exact ⟨⟨_, rfl⟩, .inl ⟨_, rfl, by rw [hruns, List.drop_length] at *; simpa [runsOf] using hJs⟩⟩
/-- THE SLICE VALUE sv HOLDS THE numbers zs, in a block below n₀; or it is nil and there are none. -/
def Ints (n₀ B₀ : Nat) (W : World) (sv : Value) (zs : List Int) : Prop :=
  (zs = [] ∧ ∃ A cap, sv = .slice A 0 cap) ∨ ∃ b off cap, sv = .slice (some ⟨b, off, none⟩) zs.length cap ∧ (b < n₀ ∧ b ≠ B₀) ∧ ∀ j, j < zs.length → W.cell? ⟨b, off + j, none⟩ = some (.int .i64 (zs[j]?.getD 0))
theorem Ints.same {n₀ B₀ : Nat} {A B : World} (h : Same n₀ B₀ A B) {sv : Value} {zs : List Int} : Ints n₀ B₀ A sv zs → Ints n₀ B₀ B sv zs
  | .inl e => .inl e
  | .inr ⟨b, off, cap, e, hb, hc⟩ => .inr ⟨b, off, cap, e, hb, fun j hj => (h.cell (b := b) (o := off + j) hb).trans (hc j hj)⟩
set_option maxRecDepth 100000 in
set_option maxHeartbeats 4000000 in
theorem each1_nil_in (n : Nat) (l Bs cap : Nat) (A : Option Addr) (J : List (Int × Nat) → World → Prop) (W : World) (hBs : W.cell? ⟨Bs, 0, none⟩ = some (.slice A 0 cap)) (h0 : J [] W) :
    CallsIn Fence.wide n Try.prog 69 #[.func (.yield l) #[] #[], .pointer (some ⟨Bs, 0, none⟩)] W fun e W' => (∃ v, e = .returned v) ∧ J [] W' := by
  refine callsIn_of_wp Try.func69 rfl trivial ?_ rfl
  simp only [Try.ntmps69, List.size_toArray, List.length_cons, List.length_nil, Nat.reduceAdd, Nat.reduceSub, Array.replicate_succ, Array.replicate_zero, List.push_toArray, List.append_toArray, List.nil_append, List.cons_append]
  gi_wp2
  gi_loopw [3] (fun i wr => i = .int .i64 0 ∧ J [] wr ∧ wr.cell? ⟨Bs, 0, none⟩ = some (.slice A 0 cap)) (fun _ _ => 0)
  case atStart => exact ⟨rfl, h0, hBs⟩
  case round =>
    obtain ⟨rfl, hJs, hB⟩ := hrel
    gi_wp2
    go_end0
    exact ⟨⟨_, rfl⟩, hJs⟩
theorem each_in (n : Nat) (a : Option Addr) (len cap : Nat) (w : World) :
    CallsIn Fence.wide n Try.prog 62 #[.slice a len cap] w fun e w' => e = .returned (.func (.func 69) #[] #[.pointer (some ⟨w.heap.size, 0, none⟩)]) ∧ w' = w.alloc (.cells #[.slice a len cap] 35) := by
  refine callsIn_of_wp Try.func62 rfl trivial ?_ rfl
  simp only [Try.ntmps62, List.size_toArray, List.length_cons, List.length_nil, Nat.reduceAdd, Nat.reduceSub, Array.replicate_succ, Array.replicate_zero, List.push_toArray, List.append_toArray, List.nil_append, List.cons_append]
  gi_wp2
  go_ret
  exact ⟨rfl, rfl⟩
theorem each_stops (q : Int × Nat → Prop) (n : Nat) (hn : 1 ≤ n) (Bs n₀ B₀ : Nat) (sv : Value) (zs : List Int) (hq : ∀ y ∈ runsOf zs, q y) (hreach : zs.length * 8 ≤ 140737488351232) (w : World) (hBs : Bs < w.heap.size) (hBn : Bs < n₀ ∧ Bs ≠ B₀) (hn₀ : n₀ ≤ w.heap.size)
    (hc : w.cell? ⟨Bs, 0, none⟩ = some sv) (hI : Ints n₀ B₀ w sv zs) :
    SeqStopsK Fence.wide n Try.prog 69 #[.pointer (some ⟨Bs, 0, none⟩)] (fun x : { x : Int × Nat // q x } => #[Value.int .i64 x.1.1, Value.int .i64 (x.1.2 : Int)]) (Same n₀ B₀) (fun ys => ys.map Subtype.val = runsOf zs) (fun pre => pre.map Subtype.val <+: runsOf zs) zs.length w := fun l J Jx W hW hJ _ hY h0 => by
  have hc' := (hW.cell (p := ⟨Bs, 0, none⟩) hBs).trans hc
  rcases hI.same (fun k hk _ => hW.block k (Nat.lt_of_lt_of_le hk hn₀)) with ⟨rfl, A, cap, rfl⟩ | ⟨b, off, cap, rfl, hb, hcs⟩
  · exact (each1_nil_in n l Bs cap A (fun _ W' => J [] W') W hc' h0).mono fun e W' ⟨he, hj⟩ => ⟨he, .inl ⟨[], rfl, hj⟩⟩
  · refine (each1_in q n hn l Bs n₀ B₀ b off cap zs hq hreach hb (fun pre W' => ∃ p : List { x : Int × Nat // q x }, p.map Subtype.val = pre ∧ J p W') (fun pre W' => ∃ p : List { x : Int × Nat // q x }, p.map Subtype.val = pre ∧ Jx p W') W
      (fun s A B row h hg hr => by obtain ⟨p, hp, hj⟩ := h; exact ⟨p, hp, hJ p A B row hj hg hr⟩) ?_ ⟨hBn, hc'⟩ hcs ⟨[], rfl, h0⟩).mono ?_
    · intro pre x W1 hx hj hl
      obtain ⟨p, hp, hj⟩ := hj
      obtain ⟨fn, tmps, assign, body, hy, hR⟩ := hY p ⟨x, hx⟩ W1 hj (by rw [← hp, List.length_map] at hl; exact hl)
      refine ⟨fn, tmps, assign, body, hy, hR.mono ?_⟩
      rintro e W' (⟨h1, h2, h3⟩ | ⟨h1, h2⟩)
      · exact .inl ⟨h1, ⟨_, by rw [List.map_append, hp]; rfl, h2⟩, h3⟩
      · exact .inr ⟨h1, ⟨_, by rw [List.map_append, hp]; rfl, h2⟩⟩
    · rintro e W' ⟨he, ⟨ys, rfl, p, hp, hj⟩ | ⟨pre, hpre, p, hp, hj⟩⟩
      · exact ⟨he, .inl ⟨p, hp, hj⟩⟩
      · exact ⟨he, .inr ⟨p, (show p.map Subtype.val <+: runsOf zs by rw [hp]; exact hpre), hj⟩⟩
theorem rd_zs (zs : List Int) (j : Nat) : rd zs (j : Int) = zs[j]?.getD 0 := by simp [rd, List.getD]
theorem Ints.of_C {w : World} {A : Option Addr} {c : Nat} {zs : List Int} (h : (Kd.int .i64).C w A zs.length zs) (n₀ : Nat) (hn : w.heap.size ≤ n₀) : Ints n₀ n₀ w (.slice A zs.length c) zs := by
  by_cases hz : zs = []
  · subst hz; exact .inl ⟨rfl, _, _, rfl⟩
  · have hp : 0 < zs.length := List.length_pos_iff.2 hz
    obtain ⟨ad, rfl, h0⟩ := Kd.at_int h 0 (by omega) (by omega)
    have hb := Go.block_lt_of_cell h0
    have had : ad = ⟨ad.block, ad.off, none⟩ := by
      cases ad with
      | mk b o s =>
        cases s with
        | none => rfl
        | some s => exact absurd h0 (by unfold World.cell? Addr.add; simp; split <;> simp)
    have hbk : ad.block < w.heap.size := by
      have : (ad.add (0 : Int).toNat).block = ad.block := by unfold Addr.add; split <;> rfl
      rw [this] at hb; exact hb
    refine .inr ⟨ad.block, ad.off, c, by rw [← had], ⟨by omega, by omega⟩, fun j hj => ?_⟩
    obtain ⟨ad', e, hj'⟩ := Kd.at_int h (j : Int) (by omega) (by omega)
    cases e
    rw [had] at hj'
    have e2 : (⟨ad.block, ad.off, none⟩ : Addr).add ((j : Int).toNat) = ⟨ad.block, ad.off + j, none⟩ := by
      unfold Addr.add; split
      · rename_i h0; simp at h0; subst h0; rfl
      · simp
    rw [e2, rd_zs] at hj'
    exact hj'
end

/-! ### runs_Put: function 29 -/
/-! words of this session: plain facts on numbers and lists -/
theorem w64 {n : Int} (h0 : -9223372036854775808 ≤ n) (h1 : n ≤ 9223372036854775807) : wrap64 n = n := by unfold wrap64; omega
theorem u64w (n : Int) : IntKind.u64.wrap n = n % 18446744073709551616 := by simp [IntKind.wrap, IntKind.bits, IntKind.signed]
theorem u64w_id {n : Int} (h0 : 0 ≤ n) (h1 : n < 18446744073709551616) : IntKind.u64.wrap n = n := by rw [u64w]; omega
theorem rd_nat (xs : List Int) (i : Nat) : rd xs (i : Int) = xs.getD i 0 := by simp [rd]
theorem rd_get {xs : List Int} {i : Nat} (h : i < xs.length) : rd xs (i : Int) = xs[i] := by simp [rd, h]
theorem wf_i64 {x : Int} (h : (Lit.int .i64 x).wf = true) : -9223372036854775808 ≤ x ∧ x ≤ 9223372036854775807 := by
  simp [Lit.wf, IntKind.min, IntKind.max, IntKind.signed, IntKind.bits] at h; omega
theorem wf_u64 {x : Int} (h : (Lit.int .u64 x).wf = true) : 0 ≤ x ∧ x < 18446744073709551616 := by
  simp [Lit.wf, IntKind.min, IntKind.max, IntKind.signed, IntKind.bits] at h; omega
theorem wf_u8 {x : Int} (h : (Lit.int .u8 x).wf = true) : 0 ≤ x ∧ x < 256 := by
  simp [Lit.wf, IntKind.min, IntKind.max, IntKind.signed, IntKind.bits] at h; omega
theorem dropc {α : Type} (l : List α) (i : Nat) (h : i < l.length) : l.drop i = l[i] :: l.drop (i + 1) := List.drop_eq_getElem_cons h

/-! the short number of a number, and what puts it -/
def leb (v : Nat) : List Int := if h : v < 128 then [(v : Int)] else ((v % 128 + 128 : Nat) : Int) :: leb (v / 128)
theorem leb_small {v : Nat} (h : v < 128) : leb v = [(v : Int)] := by rw [leb, dif_pos h]
theorem leb_big {v : Nat} (h : ¬ v < 128) : leb v = ((v % 128 + 128 : Nat) : Int) :: leb (v / 128) := by rw [leb, dif_neg h]
theorem leb_length : ∀ (n v : Nat), v < 128 ^ (n + 1) → (leb v).length ≤ n + 1 := by
  intro n
  induction n with
  | zero => intro v h; rw [leb_small (by simpa using h)]; simp
  | succ n ih =>
    intro v h
    by_cases hv : v < 128
    · rw [leb_small hv]; simp
    · rw [leb_big hv, List.length_cons]
      have := ih (v / 128) (by rw [Nat.div_lt_iff_lt_mul (by decide)]; rw [Nat.pow_succ] at h; omega)
      omega
theorem p128 : (18446744073709551616 : Nat) < 128 ^ (9 + 1) := by decide
theorem leb_length10 {v : Nat} (h : v < 18446744073709551616) : (leb v).length ≤ 10 := leb_length 9 v (Nat.lt_trans h p128)

theorem putvar_l0 : ∀ (n k v : Nat) (b : List Int), v < 128 ^ (n + 1) → n < k → b.length + n < 140737488355328 → num_PutVar.l0 k b v = some (b ++ leb v) := by
  intro n
  induction n with
  | zero =>
    intro k v b hv hk hb
    obtain ⟨k, rfl⟩ : ∃ m, k = m + 1 := ⟨k - 1, by omega⟩
    simp only [num_PutVar.l0]
    rw [if_neg (by omega), if_pos (by omega), leb_small (by omega)]
    rw [Int.emod_eq_of_lt (by omega) (by omega)]
  | succ n ih =>
    intro k v b hv hk hb
    obtain ⟨k, rfl⟩ : ∃ m, k = m + 1 := ⟨k - 1, by omega⟩
    simp only [num_PutVar.l0]
    by_cases h : v < 128
    · rw [if_neg (by omega), if_pos (by omega), leb_small h, Int.emod_eq_of_lt (by omega) (by omega)]
    · rw [if_pos (by omega), if_pos (by omega), Lib.u8_or128_any _ (by omega) (by omega), leb_big h]
      have e : (v : Int) / 128 = ((v / 128 : Nat) : Int) := by omega
      rw [e, ih k (v / 128) _ (by rw [Nat.div_lt_iff_lt_mul (by decide)]; rw [Nat.pow_succ] at hv; omega) (by omega) (by simp; omega)]
      have e2 : (v : Int) % 256 % 128 + 128 = ((v % 128 + 128 : Nat) : Int) := by omega
      rw [e2]; simp
theorem putvar_f {v : Int} {b : List Int} {k : Nat} (h0 : 0 ≤ v) (h1 : v < 18446744073709551616) (hk : 10 ≤ k) (hb : b.length < 140737488000000) : num_PutVar.f k b v = some (b ++ leb v.toNat) := by
  obtain ⟨n, rfl⟩ := Int.eq_ofNat_of_zero_le h0
  unfold num_PutVar.f
  exact putvar_l0 9 k n b (Nat.lt_trans (by omega) p128) (by omega) (by omega)

/-! num.Zig -/
def zz (x : Int) : Int := if 0 ≤ x then 2 * x else -2 * x - 1
theorem zz_range {x : Int} (h0 : -9223372036854775808 ≤ x) (h1 : x ≤ 9223372036854775807) : 0 ≤ zz x ∧ zz x < 18446744073709551616 := by
  unfold zz; split <;> omega
theorem zig_f {x : Int} (h0 : -9223372036854775808 ≤ x) (h1 : x ≤ 9223372036854775807) : num_Zig.f x = some (zz x) := by
  unfold num_Zig.f zz
  by_cases h : 0 ≤ x
  · rw [if_pos h]
    have e1 : IntKind.u64.wrap (IntKind.u64.wrap x * 2) = (((2 * x).toNat : Nat) : Int) := by rw [u64w, u64w]; omega
    have e2 : IntKind.u64.wrap (x / 9223372036854775808) = ((0 : Nat) : Int) := by rw [u64w]; omega
    rw [e1, e2, bits_xor_u64_nat _ _ (by omega) (by omega), Nat.xor_zero]
    congr 1; omega
  · rw [if_neg h]
    have e1 : IntKind.u64.wrap (IntKind.u64.wrap x * 2) = (((2 * x + 18446744073709551616).toNat : Nat) : Int) := by rw [u64w, u64w]; omega
    have e2 : IntKind.u64.wrap (x / 9223372036854775808) = ((2 ^ 64 - 1 : Nat) : Int) := by rw [u64w]; omega
    rw [e1, e2, bits_xor_u64_nat _ _ (by omega) (by decide), Nat.xor_comm, Lib.xor_ones64 _ (by omega)]
    congr 1; omega

section
open Go.Shelf
attribute [local go_sem] Oper.semAt_some
def runForm (r : List (Int × Nat)) : List Int := r.flatMap fun x => leb (x.2 - 1) ++ leb (zz x.1).toNat
theorem runForm_snoc (r : List (Int × Nat)) (x : Int × Nat) : runForm (r ++ [x]) = runForm r ++ leb (x.2 - 1) ++ leb (zz x.1).toNat := by simp [runForm]
abbrev RunX := { x : Int × Nat // (-9223372036854775808 ≤ x.1 ∧ x.1 ≤ 9223372036854775807) ∧ 1 ≤ x.2 ∧ x.2 ≤ 65536 }
def runFormX (r : List RunX) : List Int := runForm (r.map Subtype.val)
theorem runFormX_snoc (r : List RunX) (x : RunX) : runFormX (r ++ [x]) = runFormX r ++ leb (x.1.2 - 1) ++ leb (zz x.1.1).toNat := by
  unfold runFormX; rw [List.map_append, List.map_cons, List.map_nil, runForm_snoc]
theorem runFormX_length (r : List RunX) : (runFormX r).length ≤ 20 * r.length := by
  induction r with
  | nil => exact Nat.zero_le _
  | cons x r ih =>
    have h1 := leb_length10 (v := x.1.2 - 1) (by have := x.2.2; omega)
    have hz := zz_range x.2.1.1 x.2.1.2
    have h2 := leb_length10 (v := (zz x.1.1).toNat) (by omega)
    have e : runFormX (x :: r) = leb (x.1.2 - 1) ++ leb (zz x.1.1).toNat ++ runFormX r := by simp [runFormX, runForm]
    rw [e, List.length_append, List.length_append, List.length_cons]; omega
theorem runsOf_ok : ∀ l : List Int, (∀ x ∈ l, -9223372036854775808 ≤ x ∧ x ≤ 9223372036854775807) → ∀ y ∈ runsOf l, (-9223372036854775808 ≤ y.1 ∧ y.1 ≤ 9223372036854775807) ∧ 1 ≤ y.2 ∧ y.2 ≤ l.length := by
  intro l
  induction l with
  | nil => intro _ y hy; simp [runsOf] at hy
  | cons x l ih =>
    intro h y hy
    have hx := h x (by simp)
    have ih' := ih (fun z hz => h z (by simp [hz]))
    rw [runsOf] at hy
    split at hy
    · simp at hy; subst hy; exact ⟨hx, by simp⟩
    · rename_i z k r he
      rw [he] at ih'
      have hz := ih' (z, k) (by simp)
      by_cases e : x = z
      · rw [if_pos e] at hy
        rcases List.mem_cons.1 hy with rfl | hy
        · exact ⟨hz.1, by simp only [List.length_cons]; have := hz.2; simp at this ⊢; omega⟩
        · have := ih' y (by simp [hy]); exact ⟨this.1, this.2.1, by simp only [List.length_cons]; omega⟩
      · rw [if_neg e] at hy
        rcases List.mem_cons.1 hy with rfl | hy
        · exact ⟨hx, by simp⟩
        · have := ih' y hy; exact ⟨this.1, this.2.1, by simp only [List.length_cons]; omega⟩
theorem cell_of_box_lp {W : World} {B : Nat} {v : Value} {t : TypeId} (h : W.heap[B]? = some (.cells #[v] t (0, 0))) : W.cell? ⟨B, 0, none⟩ = some v ∧ W.frozen? ⟨B, 0, none⟩ = false := by
  constructor <;> simp [World.cell?, World.frozen?, h]
theorem cell_new_lp (W : World) (v : Value) (t : TypeId) : (W.alloc (.cells #[v] t)).cell? ⟨W.heap.size, 0, none⟩ = some v ∧ (W.alloc (.cells #[v] t)).frozen? ⟨W.heap.size, 0, none⟩ = false :=
  cell_of_box_lp (World.alloc_heap_new W _)
theorem same_putObjp (W : World) (l k : Nat) (o' : Obj) (h : k ≠ l) : (W.putObj l o').heap[k]? = W.heap[k]? := by
  unfold World.putObj; simp [Array.getElem?_setIfInBounds]; intro e; exact absurd e.symm h
theorem sub1 (n : Nat) (h1 : 1 ≤ n) (h2 : n ≤ 65536) : IntKind.u64.wrap ((n : Int) - 1) = ((n - 1 : Nat) : Int) := by rw [u64w_id (by omega) (by omega)]; omega
theorem R_raise {w : World} {base : Nat} {v : Value} {xs : List Int} {ok : Nat → Prop} (h : Kd.R (Kd.int .u8) 5 w base ok v xs) : w.ownsRow base 5 1 v xs.length (nums .u8 xs) ∧ ∀ k, v.ownBlock = some k → ok k := by
  refine ⟨Kd.own_of_R h, ?_⟩
  exact h.1
theorem put_same {w W w1 w2 : World} {v : Value} {mz : Nat} (hok : ∀ k, v.ownBlock = some k → w.heap.size + 2 ≤ k) (hsz : w.heap.size + 1 < W.heap.size) (hK1 : Kept W w1 (fun k => some k = v.ownBlock)) (hK2 : Kept (w1.drewN mz) w2 (fun k => some k = v.ownBlock ∨ W.heap.size ≤ k)) :
    ∀ k, k < W.heap.size → some k ≠ v.ownBlock → w2.heap[k]? = W.heap[k]? := fun k hk hne =>
  (hK2.2 k (Nat.lt_of_lt_of_le hk hK1.1) (fun h => h.elim hne (fun h => absurd h (Nat.not_le.2 hk)))).trans (hK1.2 k hk hne)
set_option maxRecDepth 100000 in
set_option maxHeartbeats 4000000 in
theorem put_in (n : Nat) (hn : 3 ≤ n) (a : Option Addr) (cap : Nat) (zs : List Int) (hle : zs.length ≤ 65536) (hw : ∀ x ∈ zs, -9223372036854775808 ≤ x ∧ x ≤ 9223372036854775807) (w : World) (hI : Ints w.heap.size w.heap.size w (.slice a zs.length cap) zs) :
    CallsIn Fence.wide n Try.prog 29 #[.slice a zs.length cap] w fun e w' => ∃ v0_ : Value, e = .returned (.tuple #[v0_, .int .i64 0]) ∧ Kd.R (Kd.int .u8) 5 w' w.heap.size (fun _ => True) v0_ (runForm (runsOf zs)) ∧ Below w.heap.size w w' := by
  have h1 : 1 ≤ n := by omega
  refine callsIn_of_wp_marks Try.func29 rfl trivial ?_ rfl
  simp only [Try.ntmps29, List.size_toArray, List.length_cons, List.length_nil, Nat.reduceAdd, Nat.reduceSub, Array.replicate_succ, Array.replicate_zero, List.push_toArray, List.append_toArray, List.nil_append, List.cons_append]
  have hgt : decide ((65536 : Int) < (zs.length : Int)) = false := decide_eq_false (by omega)
  gi_wp2_with (refine ⟨trivial, ?_⟩; gi_at_call 62; refine (each_in (n - 1) _ _ _ _).mono ?_; rintro e w' ⟨rfl, rfl⟩)
  have hs := cell_new_lp w (.slice none 0 0) 22
  have hb := cell_new_lp (w.alloc (.cells #[.slice none 0 0] 22)) (.slice a zs.length cap) 35
  rw [World.size_alloc] at hb
  have hB0 : Below w.heap.size w ((w.alloc (.cells #[.slice none 0 0] 22)).alloc (.cells #[.slice a zs.length cap] 35)) := ((Below.refl _ w).alloc (Nat.le_refl _) _).alloc (by simp) _
  have hI2 : Ints (w.heap.size + 2) w.heap.size ((w.alloc (.cells #[.slice none 0 0] 22)).alloc (.cells #[.slice a zs.length cap] 35)) (.slice a zs.length cap) zs := by
    rcases hI with ⟨e, h⟩ | ⟨b, off, cap', e, hbl, hc⟩
    · exact .inl ⟨e, h⟩
    · exact .inr ⟨b, off, cap', e, ⟨by omega, by omega⟩, fun j hj => (hB0.cell (p := ⟨b, off + j, none⟩) hbl.1).trans (hc j hj)⟩
  have hbox0 : Boxed ((w.alloc (.cells #[.slice none 0 0] 22)).alloc (.cells #[.slice a zs.length cap] 35)) w.heap.size 22 (.slice none 0 0) := (Boxed.new w 22 _).alloc _
  refine wpIn_rangeFunc_ownF rfl h1 (gf := 69) (lb := #[.pointer (some ⟨w.heap.size + 1, 0, none⟩)]) rfl trivial (enters_of Try.func69 (by kernel_rfl) rfl)
    (each_stops (fun x => (-9223372036854775808 ≤ x.1 ∧ x.1 ≤ 9223372036854775807) ∧ 1 ≤ x.2 ∧ x.2 ≤ 65536) (n - 1) (by omega) (w.heap.size + 1) (w.heap.size + 2) w.heap.size (.slice a zs.length cap) zs
      (fun y hy => by obtain ⟨h1, h2, h3⟩ := runsOf_ok zs hw y hy; exact ⟨h1, h2, Nat.le_trans h3 hle⟩) (by omega) _ (by simp) ⟨by omega, by omega⟩ (by simp) hb.1 hI2) (fun h k => h.trans k)
    (fun W l o o' hl _ _ _ k hk _ => by simp at hl; exact same_putObjp W l k o' (by omega)) (Below.refl _ _) (fun _ => rfl)
    (fun (pre : List RunX) W => (∃ v, Boxed W w.heap.size 22 v ∧ W.ownsRow w.heap.size 5 1 v (runFormX pre).length (nums .u8 (runFormX pre)) ∧ (∀ k, v.ownBlock = some k → w.heap.size + 2 ≤ k)) ∧ (W.cell? ⟨w.heap.size + 1, 0, none⟩ = some (.slice a zs.length cap) ∧ Below w.heap.size w W))
    (fun _ _ _ => False)
    (OwnFrom.and (Own.from (holdsRow_own w.heap.size w.heap.size 22 5 1 (fun pre => (runFormX pre).length) (fun pre => nums .u8 (runFormX pre)) (fun _ v => ∀ k, v.ownBlock = some k → w.heap.size + 2 ≤ k)) _) (OwnFrom.and (Own.from (fun s A B row hs hg hr => Go.cell_kept hs hg hr) _) (ownFrom_below (Nat.le_refl _) (by simp; omega))))
    (fun _ _ _ _ _ hs _ _ => hs)
    ⟨⟨_, hbox0, own_nil _ _ _ _, by simp [Value.ownBlock]⟩, hb.1, hB0⟩
    (fun x => { tmps := #[.slice a zs.length cap, undef, .slice none 0 0, .int .i64 0, .pointer (some ⟨w.heap.size, 0, none⟩), .int .i64 x.1.1, .int .i64 (x.1.2 : Int), .slice a zs.length cap, .int .i64 (zs.length : Int), .bool (decide (65536 < (zs.length : Int))), .slice a zs.length cap, .func (.func 69) #[] #[.pointer (some ⟨w.heap.size + 1, 0, none⟩)], .int .i64 x.1.1, .int .i64 (x.1.2 : Int), undef, undef, undef, undef, undef, undef, undef, undef, undef], defers := [] }) ?assign ?body ?done ?stop
  case assign =>
    intro l x W K hK
    gi_wp2
    simpa [hgt] using hK
  case body =>
    rintro l pre x W ⟨⟨v, hbx, hrow, hok⟩, hc1, hB⟩ hpl
    have hbc := hbx.cell
    have hbf := hbx.frozen
    have hxw := sub1 x.1.2 x.2.2.1 x.2.2.2
    have hsz : w.heap.size + 1 < W.heap.size := Go.block_lt_of_cell hc1
    have hfl := runFormX_length pre
    have hz := zz_range x.2.1.1 x.2.1.2
    have hzig := zig_f x.2.1.1 x.2.1.2
    have hp1 : num_PutVar.f 10 (runFormX pre) ((x.1.2 - 1 : Nat) : Int) = some (runFormX pre ++ leb (x.1.2 - 1)) := by
      have := putvar_f (v := ((x.1.2 - 1 : Nat) : Int)) (b := runFormX pre) (k := 10) (by omega) (by have := x.2.2.2; omega) (by omega) (by omega)
      rw [Int.toNat_natCast] at this; exact this
    have h10 := leb_length10 (v := x.1.2 - 1) (by have := x.2.2.2; omega)
    have hp2 : num_PutVar.f 10 (runFormX pre ++ leb (x.1.2 - 1)) (zz x.1.1) = some (runFormX (pre ++ [x])) := by
      rw [putvar_f hz.1 hz.2 (by omega) (by rw [List.length_append]; omega), runFormX_snoc]
    have hR0 : Kd.R (Kd.int .u8) 5 W w.heap.size (fun k => some k = v.ownBlock) v (runFormX pre) := Kd.R_of_own (h1 := fun _ => rfl) hrow (fun k hk => hk.symm)
    have hlt := Kd.R_lt hR0
    have Hz := Lib.hid hzig
    have H1 := Lib.hid hp1
    have H2 := Lib.hid hp2
    clear hzig hp1 hp2
    gi_wp2_with ((refine ⟨trivial, fun _ => by omega, ?_⟩; gi_at_call 18; refine (CallsIn.inRound l (callsIn_wide.2 (num_PutVar.calls 10 _ v (runFormX pre) _ _ w W hB hR0 H1.out))).mono ?_; clear H1; rintro e w1 ⟨v1, rfl, hR1, hB1, hK1⟩))
    gi_wp2_with ((refine ⟨trivial, fun _ => by omega, ?_⟩; gi_at_call 24; refine (CallsIn.inRound l (callsIn_wide.2 (num_Zig.calls _ _ _ Hz.out))).mono ?_; rintro e wz ⟨rfl, ⟨mz, rfl⟩⟩))
    gi_wp2_with ((refine ⟨trivial, fun _ => by omega, ?_⟩; gi_at_call 18; refine (CallsIn.inRound l (callsIn_wide.2 (num_PutVar.calls 10 _ v1 (runFormX pre ++ leb (x.1.2 - 1)) _ _ w (w1.drewN mz) (pw_below_drewN hB1 mz) (Kd.R_drewN hR1 mz) H2.out))).mono ?_; clear H2; rintro e w2 ⟨v2, rfl, hR2, hB2, hK2⟩; obtain ⟨A2, c2, rfl⟩ := Kd.R_slice hR2; have hsame := put_same hok hsz hK1 hK2; have hbx2 : w2.heap[w.heap.size]? = some (.cells #[v] 22 (0, 0)) := (hsame w.heap.size (by omega) (fun e => by have := hok _ e.symm; omega)).trans hbx; have hbc2 := (cell_of_box_lp hbx2).1; have hbf2 := (cell_of_box_lp hbx2).2))
    have hty := Kd.R_typed hR0
    have hle2 : W.heap.size ≤ w2.heap.size := Nat.le_trans hK1.1 hK2.1
    have hSame : Same (w.heap.size + 2) w.heap.size W (w2.setCell ⟨w.heap.size, 0, none⟩ (.slice A2 (runFormX (pre ++ [x])).length c2)) := fun k hk hne =>
      (Below.heap_setCell w2 _ _ k hne).trans (hsame k (by omega) (fun e => by have := hok _ e.symm; omega))
    have hokk : ∀ k, ((some k = v.ownBlock ∨ W.heap.size ≤ k) ∨ (w1.drewN mz).heap.size ≤ k) → w.heap.size + 2 ≤ k := fun k hk => by
      rcases hk with (h | h) | h
      · exact hok _ h.symm
      · omega
      · exact Nat.le_trans hsz (Nat.le_trans (show W.heap.size ≤ (w1.drewN mz).heap.size from hK1.1) h)
    have hR3 := Kd.R_far (p := ⟨w.heap.size, 0, none⟩) hR2 (fun k hk (e : k = w.heap.size) => absurd (hokk k hk) (by rw [e]; omega)) (.slice A2 (runFormX (pre ++ [x])).length c2)
    obtain ⟨ho3, hk3⟩ := R_raise hR3
    refine ⟨⟨Nat.le_trans hle2 (by simp), fun k o hk ho => ?_⟩, hSame, ⟨_, ?_, ho3, fun k hk => ?_⟩, (hSame.cell ⟨by omega, by omega⟩).trans hc1, hB2.setCell (p := ⟨w.heap.size, 0, none⟩) (Nat.le_refl _) _⟩
    · have hlk : k < W.heap.size := (Array.getElem?_eq_some_iff.1 hk).1
      have hne : k ≠ w.heap.size := fun e => by rw [e, show W.heap[w.heap.size]? = _ from hbx] at hk; cases hk; cases ho
      rw [Below.heap_setCell w2 _ _ k hne, hsame k hlk (fun e => by obtain ⟨cs, hcs⟩ := hty k e.symm; rw [hcs] at hk; cases hk; cases ho)]
      exact hk
    · exact (blk_set hbx2 0 _).trans (by rfl)
    · exact hokk _ (hk3 k hk)
  case done =>
    rintro D ys W hD hys ⟨⟨v, hbx, hrow, hok⟩, hc1, hB⟩ hK
    have hbc := hbx.cell
    gi_wp2
    have hys2 : runFormX ys = runForm (runsOf zs) := by unfold runFormX; rw [hys]
    refine ⟨by simp, .inl ⟨_, _, rfl, run_takeDeferred hK, ?_⟩⟩
    refine ⟨_, results_tmp2 rfl _ _ _, v, rfl, ?_, hB.trans (belowK_b (w := w) (Nat.le_refl _) W D _ _ (by simp at hD; omega) hK rfl rfl)⟩
    rw [← hys2]
    exact Kd.R_of_own (h1 := fun _ => rfl) (ownsRow_putObj hrow _ hK rfl) (fun _ _ => trivial)
  case stop =>
    rintro D c pre W _ _ h _
    exact h.elim
def runs_Put.f (l0 : List Int) : Option (List Int × Int) := if l0.length > 65536 then (if l0.length ≤ 9223372036854775807 then some ([], 12) else none) else if ∀ x ∈ l0, -9223372036854775808 ≤ x ∧ x ≤ 9223372036854775807 then some (runForm (runsOf l0), 0) else none
set_option maxHeartbeats 4000000 in
theorem put_long (A0 : Option Addr) (c0 n : Nat) (w : World) (hn : 65536 < n) (hm : n ≤ 9223372036854775807) :
    Calls Try.prog 29 #[.slice A0 n c0] w fun e w' => e = .returned (.tuple #[.slice none 0 0, .int .i64 12]) ∧ w = w' := by
  have hd : decide (65536 < n) = true := decide_eq_true hn
  go_enter Try.func29, Try.ntmps29
  go_wp2
  go_ret2
  exact ⟨rfl, rfl⟩
theorem runs_Put.calls (A0 : Option Addr) (c0 : Nat) (l0 : List Int) (r1 : List Int) (r2 : Int) (w : World) (hr0 : Kd.C (Kd.int .i64) w A0 l0.length l0) (hc0 : l0.length ≤ c0) (h : runs_Put.f l0 = some (r1, r2)) :
    Calls Try.prog 29 #[.slice A0 l0.length c0] w fun e w' => ∃ v0_ : Value, e = .returned (.tuple #[v0_, .int .i64 r2]) ∧ Kd.R (Kd.int .u8) 5 w' w.heap.size (fun _ => True) v0_ r1 ∧ Below w.heap.size w w' := by
  unfold runs_Put.f at h
  by_cases hl : l0.length > 65536
  · rw [if_pos hl] at h
    by_cases hm : l0.length ≤ 9223372036854775807
    · rw [if_pos hm] at h
      simp only [Option.some.injEq, Prod.mk.injEq] at h
      obtain ⟨rfl, rfl⟩ := h
      refine (put_long A0 c0 l0.length w hl hm).mono ?_
      rintro e w' ⟨rfl, rfl⟩
      exact ⟨_, rfl, Kd.R_nil _ _ _ _ _, Below.refl _ _⟩
    · rw [if_neg hm] at h; cases h
  · rw [if_neg hl] at h
    by_cases hw : ∀ x ∈ l0, -9223372036854775808 ≤ x ∧ x ≤ 9223372036854775807
    · rw [if_pos hw] at h
      simp only [Option.some.injEq, Prod.mk.injEq] at h
      obtain ⟨rfl, rfl⟩ := h
      exact callsIn_wide.1 (put_in 3 (by omega) A0 c0 l0 (by omega) hw w (Ints.of_C hr0 _ (Nat.le_refl _)))
    · rw [if_neg hw] at h; cases h
end

/-! ### estreatlaw09_awake: function 28 -/
def estreatlaw09_awake.f (k : Nat)  : Option (Bool) := (runs_Put.f (([5, 5, 5] : List Int))).bind fun bt112 => ((estreatref01_Same.f k bt112.1 (([2, 10] : List Int))).bind fun t119 => (if t119 = true then (some (bt112.2 == 0)) else (some false)))
theorem estreatlaw09_awake.mono : ∀ k, LeO (estreatlaw09_awake.f k ) (estreatlaw09_awake.f (k + 1) ) := by
  intro  k
  unfold estreatlaw09_awake.f
  repeat' first
      | (with_reducible exact estreatref01_Same.mono _ _ _)
      | (with_reducible exact LeO.refl _)
      | (with_reducible exact LeO.none _)
      | (with_reducible refine LeO.ite ?_ ?_)
      | (with_reducible refine LeO.bind ?_ (fun _ => ?_))
      | exact estreatref01_Same.mono _ _ _
      | exact LeO.none _
      | refine LeO.ite ?_ ?_
      | refine LeO.bind ?_ (fun _ => ?_)
set_option maxHeartbeats 8000000 in
set_option maxRecDepth 100000 in
theorem estreatlaw09_awake.calls (k : Nat)  (r : Bool) (w : World) (h : estreatlaw09_awake.f k  = some r) :
    Calls Try.prog 28 #[] w fun e w' => e = .returned (.bool r) ∧ Below w.heap.size w w' := by
  have HB := Aside0.mk (Below.refl w.heap.size w)
  have H : ((runs_Put.f (([5, 5, 5] : List Int))).bind fun bt112 => ((estreatref01_Same.f k bt112.1 (([2, 10] : List Int))).bind fun t119 => (if t119 = true then (some (bt112.2 == 0)) else (some false)))) = some r := h
  clear h
  obtain ⟨y109, hy109⟩ : ∃ y_ : List Int, y_ = (([5, 5, 5] : List Int)) := ⟨_, rfl⟩
  replace H : ((runs_Put.f y109).bind fun bt112 => ((estreatref01_Same.f k bt112.1 (([2, 10] : List Int))).bind fun t119 => (if t119 = true then (some (bt112.2 == 0)) else (some false)))) = some r := by first | (rw [hy109]; with_reducible exact H) | (have H2_ := (Option.bind_some _ _).symm.trans H; rw [hy109]; with_reducible exact H2_) | (have H2_ := (Option.bind_some _ _).symm.trans H; with_reducible exact H2_) | with_reducible exact H | (rw [hy109]; exact H) | exact H
  have Ny109 := Aside0.mk hy109
  clear hy109
  replace H := Option.bind_eq_some_iff.mp H
  obtain ⟨⟨t112, t113⟩, A10, H⟩ := H
  replace H : ((estreatref01_Same.f k t112 (([2, 10] : List Int))).bind fun t119 => (if t119 = true then (some (t113 == 0)) else (some false))) = some r := H
  have A1 := Aside0.mk A10
  clear A10
  obtain ⟨y116, hy116⟩ : ∃ y_ : List Int, y_ = (([2, 10] : List Int)) := ⟨_, rfl⟩
  replace H : ((estreatref01_Same.f k t112 y116).bind fun t119 => (if t119 = true then (some (t113 == 0)) else (some false))) = some r := by first | (rw [hy116]; with_reducible exact H) | (have H2_ := (Option.bind_some _ _).symm.trans H; rw [hy116]; with_reducible exact H2_) | (have H2_ := (Option.bind_some _ _).symm.trans H; with_reducible exact H2_) | with_reducible exact H | (rw [hy116]; exact H) | exact H
  have Ny116 := Aside0.mk hy116
  clear hy116
  replace H := Option.bind_eq_some_iff.mp H
  obtain ⟨t119, A20, H⟩ := H
  replace H : (if t119 = true then (some (t113 == 0)) else (some false)) = some r := H
  have A2 := Aside0.mk A20
  clear A20
  by_cases c3 : t119 = true
  · subst c3
    have H1 : (some (t113 == 0)) = some r := by rw [if_pos rfl] at H; exact H
    clear H
    have H := H1
    clear H1
    obtain rfl := Option.some.inj H
    go_enter Try.func28, Try.ntmps28
    go_wp2_with (first | ((with_reducible refine gate_dst (N := 4) rfl ?_); refine Kd.R_lit (Kd.int .i64) _ 2 ?hg (N := 4) ?hd (xs := ([5, 5, 5] : List Int)) (inner := [.int .i64 5, .int .i64 5, .int .i64 5]) (ok := fun _ => True) (okp := fun _ => True) ?hr ?hp (fun _ hk => hk) trivial (Below.refl _ _) (Nat.le_refl _) (by simp) ?_; (case hd => rfl); (case hg => rfl); (case hr => first | (go_simp; done) | (go_simp; rfl)); (case hp => exact (Reps.one (show Kd.M (Kd.int .i64) _ _ _ 5 [.int .i64 5] from rfl) (Reps.one (show Kd.M (Kd.int .i64) _ _ _ 5 [.int .i64 5] from rfl) (Reps.one (show Kd.M (Kd.int .i64) _ _ _ 5 [.int .i64 5] from rfl) (Reps.none _ _))))); intro v110 w4 ho5 hb hg_ hnew_; clear hg_ hnew_; (first | rw [← Ny109.out] at ho5 | (simp only [Int.reduceToNat] at ho5; rw [← Ny109.out] at ho5)); have n0_ := Aside0.mk (Kd.R_lower ho5 (below_size (by repeat (first | (with_reducible first | exact HB.out | apply below_alloc | apply pw_below_drewN | apply below_drew1) | exact HB.out)))); have n1_ := Aside0.mk (below_step (by repeat (first | (with_reducible first | exact HB.out | apply below_alloc | apply pw_below_drewN | apply below_drew1) | exact HB.out)) hb); clear HB; have HO111 := n0_; have HB := n1_; clear n0_ n1_; clear hb ho5; obtain ⟨Ao6, co6, eo6⟩ := Kd.R_slice HO111.out; subst eo6) | ((with_reducible refine gate_callee (f := 29) rfl ?_); refine goesL_ (some 5) rfl rfl Try.func29 (by kernel_rfl) rfl #[.slice Ao6 y109.length co6] rfl (by (try simp only [List.map_toArray, List.map_cons, List.map_nil]); first | done | rfl | (simp only [List.length_drop, List.length_take]; rfl)) ?_; (with_reducible refine (runs_Put.calls _ _ y109 t112 t113 _ ?side1 ?side2 A1.out).mono ?_); (case side1 => repeat (first | exact (Kd.R_reads' HO111.out).2.2 | (with_reducible refine Kd.C_alloc ?_ _) | (with_reducible refine Kd.C_drewN ?_ _) | (with_reducible refine Kd.C_drew ?_))); (case side2 => exact (Kd.R_reads' HO111.out).2.1); rintro e w7 ⟨v114, rfl, ho0, hb⟩; refine ⟨_, rfl, ?_⟩; have n0_ := Aside0.mk (Kd.R_below (by (with_reducible repeat (first | apply Kd.R_alloc | apply Kd.R_drewN | apply Kd.R_drew)); exact HO111.out) hb); have n1_ := Aside0.mk (Kd.R_lower ho0 (below_size (by repeat (first | (with_reducible first | exact HB.out | apply below_alloc | apply pw_below_drewN | apply below_drew1) | exact HB.out)))); have n2_ := Aside0.mk (below_step (by repeat (first | (with_reducible first | exact HB.out | apply below_alloc | apply pw_below_drewN | apply below_drew1) | exact HB.out)) hb); clear HO111; clear HB; have HO111 := n0_; have HO115 := n1_; have HB := n2_; clear n0_ n1_ n2_; (try clear hb); (try clear hb2); (try clear hk); (try clear hi); (try clear ho0)) | ((with_reducible refine gate_dst (N := 9) rfl ?_); refine Kd.R_lit (Kd.int .u8) _ 5 ?hg (N := 9) ?hd (xs := ([2, 10] : List Int)) (inner := [.int .u8 2, .int .u8 10]) (ok := fun _ => True) (okp := fun _ => True) ?hr ?hp (fun _ hk => hk) trivial (Below.refl _ _) (Nat.le_refl _) (by simp) ?_; (case hd => rfl); (case hg => rfl); (case hr => first | (go_simp; done) | (go_simp; rfl)); (case hp => exact (Reps.one (show Kd.M (Kd.int .u8) _ _ _ 2 [.int .u8 2] from rfl) (Reps.one (show Kd.M (Kd.int .u8) _ _ _ 10 [.int .u8 10] from rfl) (Reps.none _ _)))); intro v117 w8 ho9 hb hg_ hnew_; clear hg_ hnew_; (first | rw [← Ny116.out] at ho9 | (simp only [Int.reduceToNat] at ho9; rw [← Ny116.out] at ho9)); have n0_ := Aside0.mk (Kd.R_below (by (with_reducible repeat (first | apply Kd.R_alloc | apply Kd.R_drewN | apply Kd.R_drew)); exact HO111.out) hb); have n1_ := Aside0.mk (Kd.R_elder' (by (with_reducible repeat (first | apply Kd.R_alloc | apply Kd.R_drewN | apply Kd.R_drew)); exact HO115.out) (Kd.R_base ho9) hb); have n2_ := Aside0.mk (Kd.R_lower (Kd.R_new' ho9 (Kd.R_lt (by (with_reducible repeat (first | apply Kd.R_alloc | apply Kd.R_drewN | apply Kd.R_drew)); exact HO115.out))) (below_size (by repeat (first | (with_reducible first | exact HB.out | apply below_alloc | apply pw_below_drewN | apply below_drew1) | exact HB.out)))); have n3_ := Aside0.mk (below_step (by repeat (first | (with_reducible first | exact HB.out | apply below_alloc | apply pw_below_drewN | apply below_drew1) | exact HB.out)) hb); clear HO111; clear HO115; clear HB; have HO111 := n0_; have HO115 := n1_; have HO118 := n2_; have HB := n3_; clear n0_ n1_ n2_ n3_; clear hb ho9; obtain ⟨Ao10, co10, eo10⟩ := Kd.R_slice HO115.out; subst eo10; obtain ⟨Ao11, co11, eo11⟩ := Kd.R_slice HO118.out; subst eo11) | ((with_reducible refine gate_callee (f := 17) rfl ?_); refine goesL_ (some 10) rfl rfl Try.func17 (by kernel_rfl) rfl #[.slice Ao10 t112.length co10, .slice Ao11 y116.length co11] rfl (by (try simp only [List.map_toArray, List.map_cons, List.map_nil]); first | done | rfl | (simp only [List.length_drop, List.length_take]; rfl)) ?_; (with_reducible refine (estreatref01_Same.calls k _ _ t112 _ _ y116 true _ ?side1 ?side2 ?side3 ?side4 A2.out).mono ?_); (case side1 => repeat (first | exact (Kd.R_reads' HO115.out).2.2 | (with_reducible refine Kd.C_alloc ?_ _) | (with_reducible refine Kd.C_drewN ?_ _) | (with_reducible refine Kd.C_drew ?_))); (case side2 => exact (Kd.R_reads' HO115.out).2.1); (case side3 => repeat (first | exact (Kd.R_reads' HO118.out).2.2 | (with_reducible refine Kd.C_alloc ?_ _) | (with_reducible refine Kd.C_drewN ?_ _) | (with_reducible refine Kd.C_drew ?_))); (case side4 => exact (Kd.R_reads' HO118.out).2.1); rintro e w' ⟨rfl, ⟨nd, rfl⟩⟩; refine ⟨_, rfl, ?_⟩))
    go_ret
    exact ⟨by first | rfl | (simp [errW_none, errW_some] <;> rfl) | (simp [*, errW_none, errW_some] <;> rfl), by repeat (first | (with_reducible first | exact HB.out | apply below_alloc | apply pw_below_drewN | apply below_drew1) | exact HB.out)⟩
  · replace c3 := Bool.eq_false_iff.mpr c3
    subst c3
    have H1 : (some false) = some r := by rw [if_neg (show ¬ (false = true) by decide)] at H; exact H
    clear H
    have H := H1
    clear H1
    obtain rfl := Option.some.inj H
    go_enter Try.func28, Try.ntmps28
    go_wp2_with (first | ((with_reducible refine gate_dst (N := 4) rfl ?_); refine Kd.R_lit (Kd.int .i64) _ 2 ?hg (N := 4) ?hd (xs := ([5, 5, 5] : List Int)) (inner := [.int .i64 5, .int .i64 5, .int .i64 5]) (ok := fun _ => True) (okp := fun _ => True) ?hr ?hp (fun _ hk => hk) trivial (Below.refl _ _) (Nat.le_refl _) (by simp) ?_; (case hd => rfl); (case hg => rfl); (case hr => first | (go_simp; done) | (go_simp; rfl)); (case hp => exact (Reps.one (show Kd.M (Kd.int .i64) _ _ _ 5 [.int .i64 5] from rfl) (Reps.one (show Kd.M (Kd.int .i64) _ _ _ 5 [.int .i64 5] from rfl) (Reps.one (show Kd.M (Kd.int .i64) _ _ _ 5 [.int .i64 5] from rfl) (Reps.none _ _))))); intro v110 w12 ho13 hb hg_ hnew_; clear hg_ hnew_; (first | rw [← Ny109.out] at ho13 | (simp only [Int.reduceToNat] at ho13; rw [← Ny109.out] at ho13)); have n0_ := Aside0.mk (Kd.R_lower ho13 (below_size (by repeat (first | (with_reducible first | exact HB.out | apply below_alloc | apply pw_below_drewN | apply below_drew1) | exact HB.out)))); have n1_ := Aside0.mk (below_step (by repeat (first | (with_reducible first | exact HB.out | apply below_alloc | apply pw_below_drewN | apply below_drew1) | exact HB.out)) hb); clear HB; have HO111 := n0_; have HB := n1_; clear n0_ n1_; clear hb ho13; obtain ⟨Ao14, co14, eo14⟩ := Kd.R_slice HO111.out; subst eo14) | ((with_reducible refine gate_callee (f := 29) rfl ?_); refine goesL_ (some 5) rfl rfl Try.func29 (by kernel_rfl) rfl #[.slice Ao14 y109.length co14] rfl (by (try simp only [List.map_toArray, List.map_cons, List.map_nil]); first | done | rfl | (simp only [List.length_drop, List.length_take]; rfl)) ?_; (with_reducible refine (runs_Put.calls _ _ y109 t112 t113 _ ?side1 ?side2 A1.out).mono ?_); (case side1 => repeat (first | exact (Kd.R_reads' HO111.out).2.2 | (with_reducible refine Kd.C_alloc ?_ _) | (with_reducible refine Kd.C_drewN ?_ _) | (with_reducible refine Kd.C_drew ?_))); (case side2 => exact (Kd.R_reads' HO111.out).2.1); rintro e w15 ⟨v114, rfl, ho0, hb⟩; refine ⟨_, rfl, ?_⟩; have n0_ := Aside0.mk (Kd.R_below (by (with_reducible repeat (first | apply Kd.R_alloc | apply Kd.R_drewN | apply Kd.R_drew)); exact HO111.out) hb); have n1_ := Aside0.mk (Kd.R_lower ho0 (below_size (by repeat (first | (with_reducible first | exact HB.out | apply below_alloc | apply pw_below_drewN | apply below_drew1) | exact HB.out)))); have n2_ := Aside0.mk (below_step (by repeat (first | (with_reducible first | exact HB.out | apply below_alloc | apply pw_below_drewN | apply below_drew1) | exact HB.out)) hb); clear HO111; clear HB; have HO111 := n0_; have HO115 := n1_; have HB := n2_; clear n0_ n1_ n2_; (try clear hb); (try clear hb2); (try clear hk); (try clear hi); (try clear ho0)) | ((with_reducible refine gate_dst (N := 9) rfl ?_); refine Kd.R_lit (Kd.int .u8) _ 5 ?hg (N := 9) ?hd (xs := ([2, 10] : List Int)) (inner := [.int .u8 2, .int .u8 10]) (ok := fun _ => True) (okp := fun _ => True) ?hr ?hp (fun _ hk => hk) trivial (Below.refl _ _) (Nat.le_refl _) (by simp) ?_; (case hd => rfl); (case hg => rfl); (case hr => first | (go_simp; done) | (go_simp; rfl)); (case hp => exact (Reps.one (show Kd.M (Kd.int .u8) _ _ _ 2 [.int .u8 2] from rfl) (Reps.one (show Kd.M (Kd.int .u8) _ _ _ 10 [.int .u8 10] from rfl) (Reps.none _ _)))); intro v117 w16 ho17 hb hg_ hnew_; clear hg_ hnew_; (first | rw [← Ny116.out] at ho17 | (simp only [Int.reduceToNat] at ho17; rw [← Ny116.out] at ho17)); have n0_ := Aside0.mk (Kd.R_below (by (with_reducible repeat (first | apply Kd.R_alloc | apply Kd.R_drewN | apply Kd.R_drew)); exact HO111.out) hb); have n1_ := Aside0.mk (Kd.R_elder' (by (with_reducible repeat (first | apply Kd.R_alloc | apply Kd.R_drewN | apply Kd.R_drew)); exact HO115.out) (Kd.R_base ho17) hb); have n2_ := Aside0.mk (Kd.R_lower (Kd.R_new' ho17 (Kd.R_lt (by (with_reducible repeat (first | apply Kd.R_alloc | apply Kd.R_drewN | apply Kd.R_drew)); exact HO115.out))) (below_size (by repeat (first | (with_reducible first | exact HB.out | apply below_alloc | apply pw_below_drewN | apply below_drew1) | exact HB.out)))); have n3_ := Aside0.mk (below_step (by repeat (first | (with_reducible first | exact HB.out | apply below_alloc | apply pw_below_drewN | apply below_drew1) | exact HB.out)) hb); clear HO111; clear HO115; clear HB; have HO111 := n0_; have HO115 := n1_; have HO118 := n2_; have HB := n3_; clear n0_ n1_ n2_ n3_; clear hb ho17; obtain ⟨Ao18, co18, eo18⟩ := Kd.R_slice HO115.out; subst eo18; obtain ⟨Ao19, co19, eo19⟩ := Kd.R_slice HO118.out; subst eo19) | ((with_reducible refine gate_callee (f := 17) rfl ?_); refine goesL_ (some 10) rfl rfl Try.func17 (by kernel_rfl) rfl #[.slice Ao18 t112.length co18, .slice Ao19 y116.length co19] rfl (by (try simp only [List.map_toArray, List.map_cons, List.map_nil]); first | done | rfl | (simp only [List.length_drop, List.length_take]; rfl)) ?_; (with_reducible refine (estreatref01_Same.calls k _ _ t112 _ _ y116 false _ ?side1 ?side2 ?side3 ?side4 A2.out).mono ?_); (case side1 => repeat (first | exact (Kd.R_reads' HO115.out).2.2 | (with_reducible refine Kd.C_alloc ?_ _) | (with_reducible refine Kd.C_drewN ?_ _) | (with_reducible refine Kd.C_drew ?_))); (case side2 => exact (Kd.R_reads' HO115.out).2.1); (case side3 => repeat (first | exact (Kd.R_reads' HO118.out).2.2 | (with_reducible refine Kd.C_alloc ?_ _) | (with_reducible refine Kd.C_drewN ?_ _) | (with_reducible refine Kd.C_drew ?_))); (case side4 => exact (Kd.R_reads' HO118.out).2.1); rintro e w' ⟨rfl, ⟨nd, rfl⟩⟩; refine ⟨_, rfl, ?_⟩))
    go_ret
    exact ⟨by first | rfl | (simp [errW_none, errW_some] <;> rfl) | (simp [*, errW_none, errW_some] <;> rfl), by repeat (first | (with_reducible first | exact HB.out | apply below_alloc | apply pw_below_drewN | apply below_drew1) | exact HB.out)⟩

end Go.Proofs.Ytbjnfephigcdkaa.PRunsPuts
