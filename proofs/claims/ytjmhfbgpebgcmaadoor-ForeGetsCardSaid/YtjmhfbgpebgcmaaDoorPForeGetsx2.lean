/- WRITTEN BY A PROGRAM of this session (wip/tool: a turned copy of the printer), out of the translation: Lean functions with the answers of the Go functions, and the proofs that the Go code comes to them. -/
import Derived.Test.YtjmhfbgpebgcmaaDoorPForeGetsx0
import Derived.Test.YtjmhfbgpebgcmaaDoorPForeGetsx1
namespace Go.Proofs.YtjmhfbgpebgcmaaDoor.PForeGets
open Go.RowKit Go.Proofs.YtjmhfbgpebgcmaaDoorW.PrintWords Go.Proofs.YtjmhfbgpebgcmaaDoorW.PrintLast Go.Proofs.YtjmhfbgpebgcmaaDoorW.PrintMore
attribute [local go_sem] max2_int min2_int max_two min_two max_three min_three max_four min_four   -- for this text's walks alone
set_option linter.unusedVariables false
set_option linter.unusedSimpArgs false

/-! ### bits_Size: function 69 -/
def bits_Size.f (a0 : Int) (a1 : Int) : Option (Int) := if a0 < 0 then (some (-1)) else (if a0 > 65536 then (some (-1)) else (if a1 < 0 then (some (-1)) else (if a1 > 64 then (some (-1)) else (some (wrap64 (Int.tdiv (wrap64 ((wrap64 (a0 * a1)) + 7)) 8))))))
set_option maxHeartbeats 8000000 in
set_option maxRecDepth 100000 in
theorem bits_Size.calls (a0 : Int) (a1 : Int) (r : Int) (w : World) (h : bits_Size.f a0 a1 = some r) :
    Calls Tryd.prog 69 #[.int .i64 a0, .int .i64 a1] w fun e w' => e = .returned (.int .i64 r) ∧ Drawn0 w w' := by
  have H : (if a0 < 0 then (some (-1)) else (if a0 > 65536 then (some (-1)) else (if a1 < 0 then (some (-1)) else (if a1 > 64 then (some (-1)) else (some (wrap64 (Int.tdiv (wrap64 ((wrap64 (a0 * a1)) + 7)) 8))))))) = some r := h
  clear h
  by_cases c3 : a0 < 0
  · rw [if_pos c3] at H
    have c3b0 : decide (a0 < 0) = true := decide_eq_true c3
    clear c3
    obtain rfl := Option.some.inj H
    go_enter Tryd.func69, Tryd.ntmps69
    go_wp2
    go_ret
    exact ⟨by first | rfl | (simp; done) | (simp [*]; done), by repeat (first | exact Drawn0.refl _ | apply Drawn0.step)⟩
  · rw [if_neg c3] at H
    have c3b0 : decide (a0 < 0) = false := decide_eq_false c3
    clear c3
    by_cases c4 : a0 > 65536
    · rw [if_pos c4] at H
      have c4b0 : decide (65536 < a0) = true := decide_eq_true c4
      clear c4
      obtain rfl := Option.some.inj H
      go_enter Tryd.func69, Tryd.ntmps69
      go_wp2
      go_ret
      exact ⟨by first | rfl | (simp; done) | (simp [*]; done), by repeat (first | exact Drawn0.refl _ | apply Drawn0.step)⟩
    · rw [if_neg c4] at H
      have c4b0 : decide (65536 < a0) = false := decide_eq_false c4
      clear c4
      by_cases c5 : a1 < 0
      · rw [if_pos c5] at H
        have c5b0 : decide (a1 < 0) = true := decide_eq_true c5
        clear c5
        obtain rfl := Option.some.inj H
        go_enter Tryd.func69, Tryd.ntmps69
        go_wp2
        go_ret
        exact ⟨by first | rfl | (simp; done) | (simp [*]; done), by repeat (first | exact Drawn0.refl _ | apply Drawn0.step)⟩
      · rw [if_neg c5] at H
        have c5b0 : decide (a1 < 0) = false := decide_eq_false c5
        clear c5
        by_cases c6 : a1 > 64
        · rw [if_pos c6] at H
          have c6b0 : decide (64 < a1) = true := decide_eq_true c6
          clear c6
          obtain rfl := Option.some.inj H
          go_enter Tryd.func69, Tryd.ntmps69
          go_wp2
          go_ret
          exact ⟨by first | rfl | (simp; done) | (simp [*]; done), by repeat (first | exact Drawn0.refl _ | apply Drawn0.step)⟩
        · rw [if_neg c6] at H
          have c6b0 : decide (64 < a1) = false := decide_eq_false c6
          clear c6
          obtain rfl := Option.some.inj H
          go_enter Tryd.func69, Tryd.ntmps69
          go_wp2
          go_ret
          exact ⟨by first | rfl | (simp; done) | (simp [*]; done), by repeat (first | exact Drawn0.refl _ | apply Drawn0.step)⟩

/-! ### bits_fits: function 76 -/
def bits_fits.f (a0 : Int) (a1 : Int) : Option (Bool) := if a1 = 64 then (some true) else (if 0 ≤ (IntKind.u64.wrap (a1)) then (some ((shr .u64 a0 (IntKind.u64.wrap (a1))) == 0)) else (none))
set_option maxHeartbeats 8000000 in
set_option maxRecDepth 100000 in
theorem bits_fits.calls (a0 : Int) (a1 : Int) (r : Bool) (w : World) (h : bits_fits.f a0 a1 = some r) :
    Calls Tryd.prog 76 #[.int .u64 a0, .int .i64 a1] w fun e w' => e = .returned (.bool r) ∧ Drawn0 w w' := by
  have H : (if a1 = 64 then (some true) else (if 0 ≤ (IntKind.u64.wrap (a1)) then (some ((shr .u64 a0 (IntKind.u64.wrap (a1))) == 0)) else (none))) = some r := h
  clear h
  by_cases c3 : a1 = 64
  · rw [if_pos c3] at H
    have c3b0 : (a1 == 64) = true := beq_iff_eq.mpr c3
    have c3b1 : (a1 != 64) = false := bne_eq_false_iff_eq.mpr c3
    clear c3
    obtain rfl := Option.some.inj H
    go_enter Tryd.func76, Tryd.ntmps76
    go_wp2
    go_ret
    exact ⟨by first | rfl | (simp; done) | (simp [*]; done), by repeat (first | exact Drawn0.refl _ | apply Drawn0.step)⟩
  · rw [if_neg c3] at H
    have c3b0 : (a1 == 64) = false := beq_eq_false_iff_ne.mpr c3
    have c3b1 : (a1 != 64) = true := bne_iff_ne.mpr c3
    obtain ⟨ji4, hji4⟩ : ∃ j_ : Int, (IntKind.u64.wrap (a1)) = j_ := ⟨_, rfl⟩
    replace H : (if 0 ≤ (ji4) then (some ((shr .u64 a0 (ji4)) == 0)) else (none)) = some r := by first | (rw [hji4] at H; exact H) | (simp only [hji4] at H ⊢; exact H)
    by_cases c5 : 0 ≤ (ji4)
    · rw [if_pos c5] at H
      have c5b0 := eq_true c5
      have c5b1 : decide (0 ≤ (ji4)) = true := decide_eq_true c5
      clear c5
      obtain ⟨ji6, hji6⟩ : ∃ j_ : Int, (shr .u64 a0 (ji4)) = j_ := ⟨_, rfl⟩
      replace H : (some ((ji6) == 0)) = some r := by first | (rw [hji6] at H; exact H) | (simp only [hji6] at H ⊢; exact H)
      have hji6_ : (a0 / 2 ^ min (ji4).toNat 64) = ji6 := hji6
      have hji6z : (ji4) ≤ 64 → (a0 / 2 ^ (ji4).toNat) = ji6 := shr_small hji6
      obtain rfl := Option.some.inj H
      go_enter Tryd.func76, Tryd.ntmps76
      go_wp2
      go_ret
      exact ⟨by first | rfl | (simp; done) | (simp only [← hji4, ← hji6] <;> (first | rfl | simp)) | (simp [*]; done), by repeat (first | exact Drawn0.refl _ | apply Drawn0.step)⟩
    · rw [if_neg c5] at H
      exact absurd H (by simp)

/-! ### bits_Pack: function 68 -/
mutual
def bits_Pack.l0 : Nat → Int → List Int → Int → List Int → Int → Int → Option (List Int × Int)
  | 0, _, _, _, _, _, _ => none
  | k + 1, x1, x7, x8, x22, x23, x24 => if x24 < x23 then (if 0 ≤ x24 then (if x24 < (x22.length : Int) then ((bits_fits.f (rd x22 x24) x1).bind fun t120 => (if t120 = true then (bits_Pack.l1 k x1 x7 x8 (rd x22 x24) x1 x22 x23 x24) else (some (([] : List Int), 5)))) else (none)) else (none)) else (some (x7, 0))
def bits_Pack.l1 : Nat → Int → List Int → Int → Int → Int → List Int → Int → Int → Option (List Int × Int)
  | 0, _, _, _, _, _, _, _, _ => none
  | k + 1, x1, x7, x8, x10, x11, x22, x23, x24 => if x11 > 0 then (if 0 ≤ (wrap64 (Int.tdiv x8 8)) then (if (wrap64 (Int.tdiv x8 8)) < (x7.length : Int) then (if 0 ≤ (IntKind.u64.wrap (Int.tmod x8 8)) then (if 0 ≤ (IntKind.u64.wrap (mn (wrap64 (8 - (Int.tmod x8 8))) x11)) then (bits_Pack.l1 k x1 (x7.set ((wrap64 (Int.tdiv x8 8)) : Int).toNat (Go.bits .or .u8 (rd x7 (wrap64 (Int.tdiv x8 8))) (shl .u8 ((x10) % 256) (IntKind.u64.wrap (Int.tmod x8 8))))) (wrap64 (x8 + (mn (wrap64 (8 - (Int.tmod x8 8))) x11))) (shr .u64 x10 (IntKind.u64.wrap (mn (wrap64 (8 - (Int.tmod x8 8))) x11))) (wrap64 (x11 - (mn (wrap64 (8 - (Int.tmod x8 8))) x11))) x22 x23 x24) else (none)) else (none)) else (none)) else (none)) else (bits_Pack.l0 k x1 x7 x8 x22 x23 (wrap64 (x24 + 1)))
end
def bits_Pack.f (k : Nat) (l0 : List Int) (a1 : Int) : Option (List Int × Int) := (bits_Size.f (l0.length : Int) a1).bind fun t115 => (if t115 < 0 then (some (([] : List Int), 1)) else (if 0 ≤ t115 then (if (t115 : Int).toNat ≤ 281474976710656 then (bits_Pack.l0 k a1 (List.replicate (t115 : Int).toNat 0) 0 l0 (l0.length : Int) 0) else (none)) else (none)))
theorem bits_Pack.mono_l : ∀ k, (∀ y0 y1 y2 y3 y4 y5, LeO (bits_Pack.l0 k y0 y1 y2 y3 y4 y5) (bits_Pack.l0 (k + 1) y0 y1 y2 y3 y4 y5)) ∧ (∀ y0 y1 y2 y3 y4 y5 y6 y7, LeO (bits_Pack.l1 k y0 y1 y2 y3 y4 y5 y6 y7) (bits_Pack.l1 (k + 1) y0 y1 y2 y3 y4 y5 y6 y7))
  | 0 => ⟨fun _ _ _ _ _ _ r h => by simp [bits_Pack.l0] at h, fun _ _ _ _ _ _ _ _ r h => by simp [bits_Pack.l1] at h⟩
  | k + 1 => by
    obtain ⟨ih0, ih1⟩ := bits_Pack.mono_l k
    refine ⟨?_, ?_⟩
    · intro y0 y1 y2 y3 y4 y5
      unfold bits_Pack.l0
      repeat' first
      | (with_reducible exact ih0 _ _ _ _ _ _)
      | (with_reducible exact ih1 _ _ _ _ _ _ _ _)
      | (with_reducible exact LeO.refl _)
      | (with_reducible exact LeO.none _)
      | (with_reducible refine LeO.ite ?_ ?_)
      | (with_reducible refine LeO.bind ?_ (fun _ => ?_))
      | exact ih0 _ _ _ _ _ _
      | exact ih1 _ _ _ _ _ _ _ _
      | exact LeO.none _
      | refine LeO.ite ?_ ?_
      | refine LeO.bind ?_ (fun _ => ?_)
    · intro y0 y1 y2 y3 y4 y5 y6 y7
      unfold bits_Pack.l1
      repeat' first
      | (with_reducible exact ih0 _ _ _ _ _ _)
      | (with_reducible exact ih1 _ _ _ _ _ _ _ _)
      | (with_reducible exact LeO.refl _)
      | (with_reducible exact LeO.none _)
      | (with_reducible refine LeO.ite ?_ ?_)
      | (with_reducible refine LeO.bind ?_ (fun _ => ?_))
      | exact ih0 _ _ _ _ _ _
      | exact ih1 _ _ _ _ _ _ _ _
      | exact LeO.none _
      | refine LeO.ite ?_ ?_
      | refine LeO.bind ?_ (fun _ => ?_)
theorem bits_Pack.mono : ∀ a0 a1 k, LeO (bits_Pack.f k a0 a1) (bits_Pack.f (k + 1) a0 a1) := by
  intro a0 a1 k
  obtain ⟨ih0, ih1⟩ := bits_Pack.mono_l k
  unfold bits_Pack.f
  repeat' first
      | (with_reducible exact ih0 _ _ _ _ _ _)
      | (with_reducible exact ih1 _ _ _ _ _ _ _ _)
      | (with_reducible exact LeO.refl _)
      | (with_reducible exact LeO.none _)
      | (with_reducible refine LeO.ite ?_ ?_)
      | (with_reducible refine LeO.bind ?_ (fun _ => ?_))
      | exact ih0 _ _ _ _ _ _
      | exact ih1 _ _ _ _ _ _ _ _
      | exact LeO.none _
      | refine LeO.ite ?_ ?_
      | refine LeO.bind ?_ (fun _ => ?_)
set_option maxHeartbeats 8000000 in
set_option maxRecDepth 100000 in
theorem bits_Pack.calls (k : Nat) (A0 : Option Addr) (c0 : Nat) (l0 : List Int) (a1 : Int) (r1 : List Int) (r2 : Int) (w : World) (hr0 : Kd.C (Kd.int .u64) w A0 l0.length l0) (hc0 : l0.length ≤ c0) (h : bits_Pack.f k l0 a1 = some (r1, r2)) :
    Calls Tryd.prog 68 #[.slice A0 l0.length c0, .int .i64 a1] w fun e w' => ∃ v0_ : Value, e = .returned (.tuple #[v0_, .int .i64 r2]) ∧ Kd.R (Kd.int .u8) 5 w' w.heap.size (fun _ => True) v0_ r1 ∧ Below w.heap.size w w' := by
  have HR0 := Aside0.mk hr0
  have HC0 := Aside0.mk hc0
  clear hr0 hc0
  have HB := Aside0.mk (Below.refl w.heap.size w)
  have H : ((bits_Size.f (l0.length : Int) a1).bind fun t115 => (if t115 < 0 then (some (([] : List Int), 1)) else (if 0 ≤ t115 then (if (t115 : Int).toNat ≤ 281474976710656 then (bits_Pack.l0 k a1 (List.replicate (t115 : Int).toNat 0) 0 l0 (l0.length : Int) 0) else (none)) else (none)))) = some (r1, r2) := h
  clear h
  replace H := Option.bind_eq_some_iff.mp H
  obtain ⟨t115, A30, H⟩ := H
  replace H : (if t115 < 0 then (some (([] : List Int), 1)) else (if 0 ≤ t115 then (if (t115 : Int).toNat ≤ 281474976710656 then (bits_Pack.l0 k a1 (List.replicate (t115 : Int).toNat 0) 0 l0 (l0.length : Int) 0) else (none)) else (none))) = some (r1, r2) := H
  have A3 := Aside0.mk A30
  clear A30
  by_cases c4 : t115 < 0
  · rw [if_pos c4] at H
    have c4b0 : decide (t115 < 0) = true := decide_eq_true c4
    clear c4
    simp only [Option.some.injEq, Prod.mk.injEq] at H
    obtain ⟨rfl, rfl⟩ := H
    go_enter Tryd.func68, Tryd.ntmps68
    go_wp2_with (first | ((with_reducible refine gate_callee (f := 69) rfl ?_); refine goesL_ (some 17) rfl rfl Tryd.func69 (by kernel_rfl) rfl #[.int .i64 (l0.length : Int), .int .i64 a1] rfl (by (try simp only [List.map_toArray, List.map_cons, List.map_nil]); first | done | rfl | (simp only [List.length_drop, List.length_take]; rfl)) ?_; (with_reducible refine (bits_Size.calls (l0.length : Int) a1 t115 _ A3.out).mono ?_); rintro e w' ⟨rfl, ⟨nd, rfl⟩⟩; refine ⟨_, rfl, ?_⟩))
    go_ret2
    exact ⟨_, by first | rfl | (simp [errW_none, errW_some] <;> rfl) | (simp [*, errW_none, errW_some] <;> rfl), by first | exact Kd.R_nil _ _ _ _ _ | exact Kd.N_nil _ _ _ _ _ | exact Kd.V_nil _ _ _ _ _ | exact Kd.Q_nil _ _ _ _ _ | exact Kd.S_nil _ _ _ _ _, by repeat (first | (with_reducible first | exact HB.out | apply below_alloc | apply pw_below_drewN | apply below_drew1) | exact HB.out)⟩
  · rw [if_neg c4] at H
    have c4b0 : decide (t115 < 0) = false := decide_eq_false c4
    clear c4
    by_cases c5 : 0 ≤ t115
    · rw [if_pos c5] at H
      have c5b0 := eq_true c5
      have c5b1 : decide (0 ≤ t115) = true := decide_eq_true c5
      clear c5
      by_cases c6 : (t115 : Int).toNat ≤ 281474976710656
      · rw [if_pos c6] at H
        have c6b0 := eq_true c6
        have c6b1 : decide ((t115 : Int).toNat ≤ 281474976710656) = true := decide_eq_true c6
        clear c6
        obtain ⟨y116, hy116⟩ : ∃ y_ : List Int, y_ = (List.replicate (t115 : Int).toNat 0) := ⟨_, rfl⟩
        replace H : (bits_Pack.l0 k a1 y116 0 l0 (l0.length : Int) 0) = some (r1, r2) := by first | (rw [hy116]; with_reducible exact H) | (have H2_ := (Option.bind_some _ _).symm.trans H; rw [hy116]; with_reducible exact H2_) | (have H2_ := (Option.bind_some _ _).symm.trans H; with_reducible exact H2_) | with_reducible exact H | (rw [hy116]; exact H) | exact H
        have Ny116 := Aside0.mk hy116
        clear hy116
        have H' := Aside0.mk H
        clear H
        go_enter Tryd.func68, Tryd.ntmps68
        go_wp2_with (first | ((with_reducible refine gate_callee (f := 69) rfl ?_); refine goesL_ (some 17) rfl rfl Tryd.func69 (by kernel_rfl) rfl #[.int .i64 (l0.length : Int), .int .i64 a1] rfl (by (try simp only [List.map_toArray, List.map_cons, List.map_nil]); first | done | rfl | (simp only [List.length_drop, List.length_take]; rfl)) ?_; (with_reducible refine (bits_Size.calls (l0.length : Int) a1 t115 _ A3.out).mono ?_); rintro e w' ⟨rfl, ⟨nd, rfl⟩⟩; refine ⟨_, rfl, ?_⟩) | ((with_reducible refine gate_dst (N := 21) rfl ?_); refine Kd.R_make (Kd.int .u8) _ 5 rfl (N := 21) rfl 23 _ _ rfl t115 rfl rfl Tryd.underlying23 (.int .u8 0) 1 info5 rfl (by decide) (by omega) 0 (ok := fun _ => True) (okp := fun _ => True) rfl (fun _ hk => hk) trivial (of_decide_eq_true (by first | (with_reducible assumption) | assumption)) (Nat.le_trans (Nat.mul_le_mul_right _ (of_decide_eq_true (by first | (with_reducible assumption) | assumption) : t115.toNat ≤ 281474976710656)) (by omega)) (Below.refl _ _) (Nat.le_refl _) ?_; intro v117 w7 ho8 hb hg_ hnew_; clear hg_ hnew_; (first | rw [← Ny116.out] at ho8 | (simp only [Int.reduceToNat] at ho8; rw [← Ny116.out] at ho8)); have n0_ := Aside0.mk (Kd.R_lower ho8 (below_size (by repeat (first | (with_reducible first | exact HB.out | apply below_alloc | apply pw_below_drewN | apply below_drew1) | exact HB.out)))); have n1_ := Aside0.mk (below_step (by repeat (first | (with_reducible first | exact HB.out | apply below_alloc | apply pw_below_drewN | apply below_drew1) | exact HB.out)) hb); clear HB; have HO118 := n0_; have HB := n1_; clear n0_ n1_; clear hb ho8))
        go_loopg [8, 24] k (fun kq v8 v24 w' => ∃ (x7_1 : List Int) (x8_1 : Int) (x24_1 : Int), v8 = .int .i64 x8_1 ∧ v24 = .int .i64 x24_1 ∧ Aside0 (bits_Pack.l0 kq a1 x7_1 x8_1 l0 (l0.length : Int) x24_1 = some (r1, r2)) ∧ Aside0 (kq ≤ k) ∧ Aside0 (Kd.R (Kd.int .u8) 5 w' w.heap.size (fun _ => True) v117 x7_1) ∧ Aside0 (Below w.heap.size w w'))
        case atStart => exact ⟨(y116), (0), (0), (by first | rfl | (simp; done) | (simp [*]; done)), (by first | rfl | (simp; done) | (simp [*]; done)), H', ⟨Nat.le_refl _⟩, ⟨by (with_reducible repeat (first | apply Kd.R_alloc | apply Kd.R_drewN | apply Kd.R_drew)); exact HO118.out⟩, ⟨by repeat (first | (with_reducible first | exact HB.out | apply below_alloc | apply pw_below_drewN | apply below_drew1) | exact HB.out)⟩⟩
        case round =>
          clear H'
          try clear p2
          try clear c4
          try clear c4b0
          try clear c5
          try clear c5b0
          try clear c5b1
          try clear c6
          try clear c6b0
          try clear c6b1
          obtain ⟨x7_1, x8_1, x24_1, rfl, rfl, HA, HK1, HO_7, HB⟩ := hrel
          cases gk with
          | zero => exact absurd HA.out (by simp [bits_Pack.l0])
          | succ k1 =>
            have H := HA.out
            clear HA
            simp only [bits_Pack.l0] at H
            by_cases c9 : x24_1 < (l0.length : Int)
            · rw [if_pos c9] at H
              have c9b0 : decide (x24_1 < (l0.length : Int)) = true := decide_eq_true c9
              clear c9
              by_cases c10 : 0 ≤ x24_1
              · rw [if_pos c10] at H
                have c10b0 : decide (0 ≤ x24_1) = true := decide_eq_true c10
                clear c10
                by_cases c11 : x24_1 < (l0.length : Int)
                · rw [if_pos c11] at H
                  have c11b0 : decide (x24_1 < (l0.length : Int)) = true := decide_eq_true c11
                  clear c11
                  replace H := Option.bind_eq_some_iff.mp H
                  obtain ⟨t120, A120, H⟩ := H
                  replace H : (if t120 = true then (bits_Pack.l1 k1 a1 x7_1 x8_1 (rd l0 x24_1) a1 l0 (l0.length : Int) x24_1) else (some (([] : List Int), 5))) = some (r1, r2) := H
                  have A12 := Aside0.mk A120
                  clear A120
                  by_cases c13 : t120 = true
                  · subst c13
                    have H1 : (bits_Pack.l1 k1 a1 x7_1 x8_1 (rd l0 x24_1) a1 l0 (l0.length : Int) x24_1) = some (r1, r2) := by rw [if_pos rfl] at H; exact H
                    clear H
                    have H := H1
                    clear H1
                    have H' := Aside0.mk H
                    clear H
                    have p119 : 0 ≤ (x24_1 : Int) := of_decide_eq_true (by first | (with_reducible assumption) | assumption)
                    have q119 : x24_1 < (l0.length : Int) := of_decide_eq_true (by first | (with_reducible assumption) | assumption)
                    obtain ⟨ad119, e119, hx119_0⟩ := Kd.at_int HR0.out x24_1 p119 q119
                    cases e119
                    replace hx119_0 := (HB.out.cell (World.block_lt_of_cell? w _ hx119_0)).trans hx119_0
                    replace p119 := eq_true p119
                    replace q119 := eq_true q119
                    go_wp2_with (first | ((with_reducible refine gate_callee (f := 76) rfl ?_); refine goesL_ (some 30) rfl rfl Tryd.func76 (by kernel_rfl) rfl #[.int .u64 (rd l0 x24_1), .int .i64 a1] rfl (by (try simp only [List.map_toArray, List.map_cons, List.map_nil]); first | done | rfl | (simp only [List.length_drop, List.length_take]; rfl)) ?_; (with_reducible refine (bits_fits.calls (rd l0 x24_1) a1 true _ A12.out).mono ?_); rintro e w' ⟨rfl, ⟨nd, rfl⟩⟩; refine ⟨_, rfl, ?_⟩))
                    go_loopg [8, 10, 11] k1 (fun kq v8 v10 v11 w' => ∃ (x7_2 : List Int) (x8_2 : Int) (x10_2 : Int) (x11_2 : Int), v8 = .int .i64 x8_2 ∧ v10 = .int .u64 x10_2 ∧ v11 = .int .i64 x11_2 ∧ Aside0 (bits_Pack.l1 kq a1 x7_2 x8_2 x10_2 x11_2 l0 (l0.length : Int) x24_1 = some (r1, r2)) ∧ Aside0 (kq ≤ k1) ∧ Aside0 (Kd.R (Kd.int .u8) 5 w' w.heap.size (fun _ => True) v117 x7_2) ∧ Aside0 (Below w.heap.size w w'))
                    case atStart => exact ⟨(x7_1), (x8_1), (rd l0 x24_1), (a1), (by first | rfl | (simp; done) | (simp [*]; done)), (by first | rfl | (simp; done) | (simp [*]; done)), (by first | rfl | (simp; done) | (simp [*]; done)), H', ⟨Nat.le_refl _⟩, ⟨by (with_reducible repeat (first | apply Kd.R_alloc | apply Kd.R_drewN | apply Kd.R_drew)); exact HO_7.out⟩, ⟨by repeat (first | (with_reducible first | exact HB.out | apply below_alloc | apply pw_below_drewN | apply below_drew1) | exact HB.out)⟩⟩
                    case round =>
                      clear H'
                      try clear c1
                      try clear p1
                      try clear q1
                      try clear hx1
                      try clear p2
                      try clear c4
                      try clear c4b0
                      try clear c5
                      try clear c5b0
                      try clear c5b1
                      try clear c6
                      try clear c6b0
                      try clear c6b1
                      try clear c7
                      try clear c9
                      try clear c9b0
                      try clear c10
                      try clear c10b0
                      try clear c11
                      try clear c11b0
                      try clear p11
                      try clear q11
                      try clear hx11
                      try clear c13
                      try clear hx119_0
                      try clear p119
                      try clear p2
                      try clear q119
                      obtain ⟨x7_2, x8_2, x10_2, x11_2, rfl, rfl, rfl, HA, HK2, HO_7, HB⟩ := hrel
                      cases gk with
                      | zero => exact absurd HA.out (by simp [bits_Pack.l1])
                      | succ k2 =>
                        have H := HA.out
                        clear HA
                        simp only [bits_Pack.l1] at H
                        by_cases c14 : x11_2 > 0
                        · rw [if_pos c14] at H
                          have c14b0 : decide (0 < x11_2) = true := decide_eq_true c14
                          clear c14
                          obtain ⟨ji15, hji15⟩ : ∃ j_ : Int, (mn (wrap64 (8 - (Int.tmod x8_2 8))) x11_2) = j_ := ⟨_, rfl⟩
                          replace H : (if 0 ≤ (wrap64 (Int.tdiv x8_2 8)) then (if (wrap64 (Int.tdiv x8_2 8)) < (x7_2.length : Int) then (if 0 ≤ (IntKind.u64.wrap (Int.tmod x8_2 8)) then (if 0 ≤ (IntKind.u64.wrap (ji15)) then (bits_Pack.l1 k2 a1 (x7_2.set ((wrap64 (Int.tdiv x8_2 8)) : Int).toNat (Go.bits .or .u8 (rd x7_2 (wrap64 (Int.tdiv x8_2 8))) (shl .u8 ((x10_2) % 256) (IntKind.u64.wrap (Int.tmod x8_2 8))))) (wrap64 (x8_2 + (ji15))) (shr .u64 x10_2 (IntKind.u64.wrap (ji15))) (wrap64 (x11_2 - (ji15))) l0 (l0.length : Int) x24_1) else (none)) else (none)) else (none)) else (none)) = some (r1, r2) := by first | (rw [hji15] at H; exact H) | (simp only [hji15] at H ⊢; exact H)
                          have hji15_ : (if x11_2 < (wrap64 (8 - (Int.tmod x8_2 8))) then x11_2 else (wrap64 (8 - (Int.tmod x8_2 8)))) = ji15 := hji15
                          obtain ⟨ji16, hji16⟩ : ∃ j_ : Int, (wrap64 (Int.tdiv x8_2 8)) = j_ := ⟨_, rfl⟩
                          replace H : (if 0 ≤ (ji16) then (if (ji16) < (x7_2.length : Int) then (if 0 ≤ (IntKind.u64.wrap (Int.tmod x8_2 8)) then (if 0 ≤ (IntKind.u64.wrap (ji15)) then (bits_Pack.l1 k2 a1 (x7_2.set ((ji16) : Int).toNat (Go.bits .or .u8 (rd x7_2 (ji16)) (shl .u8 ((x10_2) % 256) (IntKind.u64.wrap (Int.tmod x8_2 8))))) (wrap64 (x8_2 + (ji15))) (shr .u64 x10_2 (IntKind.u64.wrap (ji15))) (wrap64 (x11_2 - (ji15))) l0 (l0.length : Int) x24_1) else (none)) else (none)) else (none)) else (none)) = some (r1, r2) := by first | (rw [hji16] at H; exact H) | (simp only [hji16] at H ⊢; exact H)
                          have hji16w : (IntKind.i64.wrap (Int.tdiv x8_2 8)) = ji16 := (i64_w _).trans hji16
                          by_cases c17 : 0 ≤ (ji16)
                          · rw [if_pos c17] at H
                            have c17b0 : decide (0 ≤ (ji16)) = true := decide_eq_true c17
                            clear c17
                            by_cases c18 : (ji16) < (x7_2.length : Int)
                            · rw [if_pos c18] at H
                              have c18b0 : decide ((ji16) < (x7_2.length : Int)) = true := decide_eq_true c18
                              clear c18
                              obtain ⟨ji19, hji19⟩ : ∃ j_ : Int, (IntKind.u64.wrap (Int.tmod x8_2 8)) = j_ := ⟨_, rfl⟩
                              replace H : (if 0 ≤ (ji19) then (if 0 ≤ (IntKind.u64.wrap (ji15)) then (bits_Pack.l1 k2 a1 (x7_2.set ((ji16) : Int).toNat (Go.bits .or .u8 (rd x7_2 (ji16)) (shl .u8 ((x10_2) % 256) (ji19)))) (wrap64 (x8_2 + (ji15))) (shr .u64 x10_2 (IntKind.u64.wrap (ji15))) (wrap64 (x11_2 - (ji15))) l0 (l0.length : Int) x24_1) else (none)) else (none)) = some (r1, r2) := by first | (rw [hji19] at H; exact H) | (simp only [hji19] at H ⊢; exact H)
                              by_cases c20 : 0 ≤ (ji19)
                              · rw [if_pos c20] at H
                                have c20b0 := eq_true c20
                                have c20b1 : decide (0 ≤ (ji19)) = true := decide_eq_true c20
                                clear c20
                                obtain ⟨ji21, hji21⟩ : ∃ j_ : Int, (shl .u8 ((x10_2) % 256) (ji19)) = j_ := ⟨_, rfl⟩
                                replace H : (if 0 ≤ (IntKind.u64.wrap (ji15)) then (bits_Pack.l1 k2 a1 (x7_2.set ((ji16) : Int).toNat (Go.bits .or .u8 (rd x7_2 (ji16)) (ji21))) (wrap64 (x8_2 + (ji15))) (shr .u64 x10_2 (IntKind.u64.wrap (ji15))) (wrap64 (x11_2 - (ji15))) l0 (l0.length : Int) x24_1) else (none)) = some (r1, r2) := by first | (rw [hji21] at H; exact H) | (simp only [hji21] at H ⊢; exact H)
                                have hji21_ : (IntKind.u8.wrap (((x10_2) % 256) * 2 ^ min (ji19).toNat 8)) = ji21 := hji21
                                have hji21z : (ji19) ≤ 8 → (IntKind.u8.wrap (((x10_2) % 256) * 2 ^ (ji19).toNat)) = ji21 := shl_small hji21
                                obtain ⟨y122, hy122⟩ : ∃ y_ : List Int, y_ = (x7_2.set ((ji16) : Int).toNat (Go.bits .or .u8 (rd x7_2 (ji16)) (ji21))) := ⟨_, rfl⟩
                                replace H : (if 0 ≤ (IntKind.u64.wrap (ji15)) then (bits_Pack.l1 k2 a1 y122 (wrap64 (x8_2 + (ji15))) (shr .u64 x10_2 (IntKind.u64.wrap (ji15))) (wrap64 (x11_2 - (ji15))) l0 (l0.length : Int) x24_1) else (none)) = some (r1, r2) := by first | (rw [hy122]; with_reducible exact H) | (have H2_ := (Option.bind_some _ _).symm.trans H; rw [hy122]; with_reducible exact H2_) | (have H2_ := (Option.bind_some _ _).symm.trans H; with_reducible exact H2_) | with_reducible exact H | (rw [hy122]; exact H) | exact H
                                have Ny122 := Aside0.mk hy122
                                clear hy122
                                obtain ⟨ji23, hji23⟩ : ∃ j_ : Int, (IntKind.u64.wrap (ji15)) = j_ := ⟨_, rfl⟩
                                replace H : (if 0 ≤ (ji23) then (bits_Pack.l1 k2 a1 y122 (wrap64 (x8_2 + (ji15))) (shr .u64 x10_2 (ji23)) (wrap64 (x11_2 - (ji15))) l0 (l0.length : Int) x24_1) else (none)) = some (r1, r2) := by first | (rw [hji23] at H; exact H) | (simp only [hji23] at H ⊢; exact H)
                                by_cases c24 : 0 ≤ (ji23)
                                · rw [if_pos c24] at H
                                  have c24b0 := eq_true c24
                                  have c24b1 : decide (0 ≤ (ji23)) = true := decide_eq_true c24
                                  clear c24
                                  obtain ⟨ji25, hji25⟩ : ∃ j_ : Int, (shr .u64 x10_2 (ji23)) = j_ := ⟨_, rfl⟩
                                  replace H : (bits_Pack.l1 k2 a1 y122 (wrap64 (x8_2 + (ji15))) ji25 (wrap64 (x11_2 - (ji15))) l0 (l0.length : Int) x24_1) = some (r1, r2) := by first | (rw [hji25] at H; exact H) | (simp only [hji25] at H ⊢; exact H)
                                  have hji25_ : (x10_2 / 2 ^ min (ji23).toNat 64) = ji25 := hji25
                                  have hji25z : (ji23) ≤ 64 → (x10_2 / 2 ^ (ji23).toNat) = ji25 := shr_small hji25
                                  have H' := Aside0.mk H
                                  clear H
                                  obtain ⟨Ao26, co26, eo26⟩ := Kd.R_slice HO_7.out
                                  subst eo26
                                  have p121 : 0 ≤ ((ji16) : Int) := of_decide_eq_true (by first | (with_reducible assumption) | assumption)
                                  have q121 : (ji16) < (x7_2.length : Int) := of_decide_eq_true (by first | (with_reducible assumption) | assumption)
                                  obtain ⟨ad121, e121, hx121_0⟩ := Kd.at_int (Kd.R_reads' HO_7.out).2.2 (ji16) p121 q121
                                  cases e121
                                  replace p121 := eq_true p121
                                  replace q121 := eq_true q121
                                  have p22 : 0 ≤ ((ji16) : Int) := of_decide_eq_true (by first | (with_reducible assumption) | assumption)
                                  have q22 : ((ji16) : Int) < ((x7_2.length : Int) : Int) := of_decide_eq_true (by first | (with_reducible assumption) | assumption)
                                  obtain ⟨go22, co22, eo22, gb22, gl22, cl22, HG22⟩ := Kd.R_form HO_7.out (by omega)
                                  (first | cases eo22 | (injection eo22 with ea_ en_ ec_; (first | subst ea_ | (injection ea_ with ea_; subst ea_)); subst ec_; clear en_))
                                  have GB22 := Aside0.mk gb22
                                  have GG22 := Aside0.mk HG22
                                  clear gb22 gl22 HG22
                                  (first | simp only [add_plain] at hx121_0 | skip)
                                  obtain ⟨hx22_0, hf22_0⟩ := Kd.R_celln 0 HO_7.out ((ji16) : Int) p22 q22
                                  replace p22 := eq_true p22
                                  replace q22 := eq_true q22
                                  have HP27 := Kd.R_putg HO_7.out ((ji16) : Int) (Go.bits .or .u8 (rd x7_2 (ji16)) (ji21))
                                  go_wp2_with (first | ((with_reducible refine gate_store (t := 5) (p := 53) rfl ?_); refine store_event (t := 5) (p := 53) (v := ?vo_w28) (w1 := (wr.setCell ⟨go22, ((ji16) : Int).toNat, none⟩ (.int .u8 (Go.bits .or .u8 (rd x7_2 (ji16)) (ji21))))) ?hg ?ho ?hn ?hr ?_; (case ho => rfl); (case hg => rfl); (case hn => rfl); (case hr => first | (go_simp; done) | (go_simp; rfl)); intro w28 hw; have hg : wr.grownBy w28 (some go22) := (by rw [hw]; exact HP27.2); have hp_ : Kd.R (Kd.int .u8) 5 w28 w.heap.size (fun _ => True) (.slice (some ⟨go22, 0, none⟩) x7_2.length co26) y122 := (by rw [hw, Ny122.out]; exact HP27.1); clear HP27; have n0_ := Aside0.mk (hp_); have n1_ := Aside0.mk ((by rw [hw]; exact below_set (HB.out) GB22.out : Below w.heap.size w w28)); clear HO_7; clear HB; have HO_7 := n0_; have HB := n1_; clear n0_ n1_; clear hg hw hp_))
                                  go_roundg k2
                                  case measure => have := HK1.out; have := HK2.out; omega
                                  case rel => exact ⟨(y122), (wrap64 (x8_2 + (ji15))), (ji25), (wrap64 (x11_2 - (ji15))), (by first | rfl | (simp; done) | (simp only [← hji15] <;> (first | rfl | simp)) | (simp [*]; done)), (by first | rfl | (simp; done) | (simp only [← hji25] <;> (first | rfl | simp)) | (simp [*]; done)), (by first | rfl | (simp; done) | (simp only [← hji15] <;> (first | rfl | simp)) | (simp [*]; done)), H', ⟨by have := HK1.out; have := HK2.out; omega⟩, ⟨by (with_reducible repeat (first | apply Kd.R_alloc | apply Kd.R_drewN | apply Kd.R_drew)); exact HO_7.out⟩, ⟨by repeat (first | (with_reducible first | exact HB.out | apply below_alloc | apply pw_below_drewN | apply below_drew1) | exact HB.out)⟩⟩
                                · rw [if_neg c24] at H
                                  exact absurd H (by simp)
                              · rw [if_neg c20] at H
                                exact absurd H (by simp)
                            · rw [if_neg c18] at H
                              exact absurd H (by simp)
                          · rw [if_neg c17] at H
                            exact absurd H (by simp)
                        · rw [if_neg c14] at H
                          have c14b0 : decide (0 < x11_2) = false := decide_eq_false c14
                          clear c14
                          have H' := Aside0.mk H
                          clear H
                          go_wp2
                          go_roundg k2
                          case measure => have := HK1.out; have := HK2.out; omega
                          case rel => exact ⟨(x7_2), (x8_2), (wrap64 (x24_1 + 1)), (by first | rfl | (simp; done) | (simp [*]; done)), (by first | rfl | (simp; done) | (simp [*]; done)), H', ⟨by have := HK1.out; have := HK2.out; omega⟩, ⟨by (with_reducible repeat (first | apply Kd.R_alloc | apply Kd.R_drewN | apply Kd.R_drew)); exact HO_7.out⟩, ⟨by repeat (first | (with_reducible first | exact HB.out | apply below_alloc | apply pw_below_drewN | apply below_drew1) | exact HB.out)⟩⟩
                  · replace c13 := Bool.eq_false_iff.mpr c13
                    subst c13
                    have H1 : (some (([] : List Int), 5)) = some (r1, r2) := by rw [if_neg (show ¬ (false = true) by decide)] at H; exact H
                    clear H
                    have H := H1
                    clear H1
                    simp only [Option.some.injEq, Prod.mk.injEq] at H
                    obtain ⟨rfl, rfl⟩ := H
                    have p119 : 0 ≤ (x24_1 : Int) := of_decide_eq_true (by first | (with_reducible assumption) | assumption)
                    have q119 : x24_1 < (l0.length : Int) := of_decide_eq_true (by first | (with_reducible assumption) | assumption)
                    obtain ⟨ad119, e119, hx119_0⟩ := Kd.at_int HR0.out x24_1 p119 q119
                    cases e119
                    replace hx119_0 := (HB.out.cell (World.block_lt_of_cell? w _ hx119_0)).trans hx119_0
                    replace p119 := eq_true p119
                    replace q119 := eq_true q119
                    go_wp2_with (first | ((with_reducible refine gate_callee (f := 76) rfl ?_); refine goesL_ (some 30) rfl rfl Tryd.func76 (by kernel_rfl) rfl #[.int .u64 (rd l0 x24_1), .int .i64 a1] rfl (by (try simp only [List.map_toArray, List.map_cons, List.map_nil]); first | done | rfl | (simp only [List.length_drop, List.length_take]; rfl)) ?_; (with_reducible refine (bits_fits.calls (rd l0 x24_1) a1 false _ A12.out).mono ?_); rintro e w' ⟨rfl, ⟨nd, rfl⟩⟩; refine ⟨_, rfl, ?_⟩))
                    go_ret2
                    exact ⟨_, by first | rfl | (simp [errW_none, errW_some] <;> rfl) | (simp [*, errW_none, errW_some] <;> rfl), by first | exact Kd.R_nil _ _ _ _ _ | exact Kd.N_nil _ _ _ _ _ | exact Kd.V_nil _ _ _ _ _ | exact Kd.Q_nil _ _ _ _ _ | exact Kd.S_nil _ _ _ _ _, by repeat (first | (with_reducible first | exact HB.out | apply below_alloc | apply pw_below_drewN | apply below_drew1) | exact HB.out)⟩
                · rw [if_neg c11] at H
                  exact absurd H (by simp)
              · rw [if_neg c10] at H
                exact absurd H (by simp)
            · rw [if_neg c9] at H
              have c9b0 : decide (x24_1 < (l0.length : Int)) = false := decide_eq_false c9
              clear c9
              simp only [Option.some.injEq, Prod.mk.injEq] at H
              obtain ⟨rfl, rfl⟩ := H
              go_wp2
              go_ret2
              exact ⟨_, by first | rfl | (simp [errW_none, errW_some] <;> rfl) | (simp [*, errW_none, errW_some] <;> rfl), by (with_reducible repeat (first | apply Kd.R_alloc | apply Kd.R_drewN | apply Kd.R_drew)); exact HO_7.out, by repeat (first | (with_reducible first | exact HB.out | apply below_alloc | apply pw_below_drewN | apply below_drew1) | exact HB.out)⟩
      · rw [if_neg c6] at H
        exact absurd H (by simp)
    · rw [if_neg c5] at H
      exact absurd H (by simp)

/-! ### fore_Put: function 55 -/
def fore_Put.l0 : Nat → Int → List Int → List Int → Int → Int → Option (List Int × Int)
  | 0, _, _, _, _, _ => none
  | k + 1, x4, x5, x21, x22, x23 => if x23 < x22 then (if 0 ≤ x23 then (if x23 < (x21.length : Int) then (if x5.length < 17592186044416 then (fore_Put.l0 k x4 (x5 ++ [IntKind.u64.wrap ((IntKind.u64.wrap (rd x21 x23)) - (IntKind.u64.wrap (x4)))]) x21 x22 (wrap64 (x23 + 1))) else (none)) else (none)) else (none)) else ((bits_Width.f k x5).bind fun t128 => ((bits_Pack.f k x5 t128).bind fun bt129 => ((num_Zig.f x4).bind fun t133 => ((num_PutVar.f k ([] : List Int) t133).bind fun t134 => (if t134.length < 140737488355328 then ((some (t134 ++ [(t128) % 256] : List Int)).bind fun y137 => (if y137.length + bt129.1.length < 140737488355328 then (some ((y137 ++ bt129.1), bt129.2)) else (none))) else (none))))))
def fore_Put.f (k : Nat) (l0 : List Int) : Option (List Int × Int) := if (l0.length : Int) > 65536 then (some (([] : List Int), 12)) else (if (l0.length : Int) = 0 then (some (([] : List Int), 0)) else ((slices_Min_int64_int64.f k l0).bind fun t123 => (fore_Put.l0 k t123 ([] : List Int) l0 (l0.length : Int) 0)))
theorem fore_Put.mono_l : ∀ k, (∀ y0 y1 y2 y3 y4, LeO (fore_Put.l0 k y0 y1 y2 y3 y4) (fore_Put.l0 (k + 1) y0 y1 y2 y3 y4))
  | 0 => fun _ _ _ _ _ r h => by simp [fore_Put.l0] at h
  | k + 1 => by
    have ih0 := fore_Put.mono_l k
    · intro y0 y1 y2 y3 y4
      unfold fore_Put.l0
      repeat' first
      | (with_reducible exact ih0 _ _ _ _ _)
      | (with_reducible exact bits_Pack.mono _ _ _)
      | (with_reducible exact bits_Width.mono _ _)
      | (with_reducible exact num_PutVar.mono _ _ _)
      | (with_reducible exact slices_Min_int64_int64.mono _ _)
      | (with_reducible exact LeO.refl _)
      | (with_reducible exact LeO.none _)
      | (with_reducible refine LeO.ite ?_ ?_)
      | (with_reducible refine LeO.bind ?_ (fun _ => ?_))
      | exact ih0 _ _ _ _ _
      | exact bits_Pack.mono _ _ _
      | exact bits_Width.mono _ _
      | exact num_PutVar.mono _ _ _
      | exact slices_Min_int64_int64.mono _ _
      | exact LeO.none _
      | refine LeO.ite ?_ ?_
      | refine LeO.bind ?_ (fun _ => ?_)
theorem fore_Put.mono : ∀ a0 k, LeO (fore_Put.f k a0) (fore_Put.f (k + 1) a0) := by
  intro a0 k
  have ih0 := fore_Put.mono_l k
  unfold fore_Put.f
  repeat' first
      | (with_reducible exact ih0 _ _ _ _ _)
      | (with_reducible exact bits_Pack.mono _ _ _)
      | (with_reducible exact bits_Width.mono _ _)
      | (with_reducible exact num_PutVar.mono _ _ _)
      | (with_reducible exact slices_Min_int64_int64.mono _ _)
      | (with_reducible exact LeO.refl _)
      | (with_reducible exact LeO.none _)
      | (with_reducible refine LeO.ite ?_ ?_)
      | (with_reducible refine LeO.bind ?_ (fun _ => ?_))
      | exact ih0 _ _ _ _ _
      | exact bits_Pack.mono _ _ _
      | exact bits_Width.mono _ _
      | exact num_PutVar.mono _ _ _
      | exact slices_Min_int64_int64.mono _ _
      | exact LeO.none _
      | refine LeO.ite ?_ ?_
      | refine LeO.bind ?_ (fun _ => ?_)
set_option maxHeartbeats 8000000 in
set_option maxRecDepth 100000 in
theorem fore_Put.calls (k : Nat) (A0 : Option Addr) (c0 : Nat) (l0 : List Int) (r1 : List Int) (r2 : Int) (w : World) (hr0 : Kd.C (Kd.int .i64) w A0 l0.length l0) (hc0 : l0.length ≤ c0) (h : fore_Put.f k l0 = some (r1, r2)) :
    Calls Tryd.prog 55 #[.slice A0 l0.length c0] w fun e w' => ∃ v0_ : Value, e = .returned (.tuple #[v0_, .int .i64 r2]) ∧ Kd.R (Kd.int .u8) 5 w' w.heap.size (fun _ => True) v0_ r1 ∧ Below w.heap.size w w' := by
  have HR0 := Aside0.mk hr0
  have HC0 := Aside0.mk hc0
  clear hr0 hc0
  have HB := Aside0.mk (Below.refl w.heap.size w)
  have H : (if (l0.length : Int) > 65536 then (some (([] : List Int), 12)) else (if (l0.length : Int) = 0 then (some (([] : List Int), 0)) else ((slices_Min_int64_int64.f k l0).bind fun t123 => (fore_Put.l0 k t123 ([] : List Int) l0 (l0.length : Int) 0)))) = some (r1, r2) := h
  clear h
  by_cases c2 : (l0.length : Int) > 65536
  · rw [if_pos c2] at H
    have c2b0 : decide (65536 < (l0.length : Int)) = true := decide_eq_true c2
    have c2b1 : decide (65536 < l0.length) = true := decide_eq_true (by omega)
    clear c2
    simp only [Option.some.injEq, Prod.mk.injEq] at H
    obtain ⟨rfl, rfl⟩ := H
    go_enter Tryd.func55, Tryd.ntmps55
    go_wp2
    go_ret2
    exact ⟨_, by first | rfl | (simp [errW_none, errW_some] <;> rfl) | (simp [*, errW_none, errW_some] <;> rfl), by first | exact Kd.R_nil _ _ _ _ _ | exact Kd.N_nil _ _ _ _ _ | exact Kd.V_nil _ _ _ _ _ | exact Kd.Q_nil _ _ _ _ _ | exact Kd.S_nil _ _ _ _ _, by repeat (first | (with_reducible first | exact HB.out | apply below_alloc | apply pw_below_drewN | apply below_drew1) | exact HB.out)⟩
  · rw [if_neg c2] at H
    have c2b0 : decide (65536 < (l0.length : Int)) = false := decide_eq_false c2
    have c2b1 : decide (65536 < l0.length) = false := decide_eq_false (by omega)
    clear c2
    by_cases c3 : (l0.length : Int) = 0
    · rw [if_pos c3] at H
      have c3b0 : ((l0.length : Int) == 0) = true := beq_iff_eq.mpr c3
      have c3b1 : ((l0.length : Int) != 0) = false := bne_eq_false_iff_eq.mpr c3
      clear c3
      simp only [Option.some.injEq, Prod.mk.injEq] at H
      obtain ⟨rfl, rfl⟩ := H
      go_enter Tryd.func55, Tryd.ntmps55
      go_wp2
      go_ret2
      exact ⟨_, by first | rfl | (simp [errW_none, errW_some] <;> rfl) | (simp [*, errW_none, errW_some] <;> rfl), by first | exact Kd.R_nil _ _ _ _ _ | exact Kd.N_nil _ _ _ _ _ | exact Kd.V_nil _ _ _ _ _ | exact Kd.Q_nil _ _ _ _ _ | exact Kd.S_nil _ _ _ _ _, by repeat (first | (with_reducible first | exact HB.out | apply below_alloc | apply pw_below_drewN | apply below_drew1) | exact HB.out)⟩
    · rw [if_neg c3] at H
      have c3b0 : ((l0.length : Int) == 0) = false := beq_eq_false_iff_ne.mpr c3
      have c3b1 : ((l0.length : Int) != 0) = true := bne_iff_ne.mpr c3
      have c3b2 : ¬ (l0 = []) := fun h_ => c3 (by rw [h_]; rfl)
      replace H := Option.bind_eq_some_iff.mp H
      obtain ⟨t123, A40, H⟩ := H
      replace H : (fore_Put.l0 k t123 ([] : List Int) l0 (l0.length : Int) 0) = some (r1, r2) := H
      have A4 := Aside0.mk A40
      clear A40
      have H' := Aside0.mk H
      clear H
      go_enter Tryd.func55, Tryd.ntmps55
      go_wp2_with (first | ((with_reducible refine gate_callee (f := 67) rfl ?_); refine goesL_ (some 20) rfl rfl Tryd.func67 (by kernel_rfl) rfl #[.slice A0 l0.length c0] rfl (by (try simp only [List.map_toArray, List.map_cons, List.map_nil]); first | done | rfl | (simp only [List.length_drop, List.length_take]; rfl)) ?_; (with_reducible refine (slices_Min_int64_int64.calls k _ _ l0 t123 _ ?side1 ?side2 A4.out).mono ?_); (case side1 => repeat (first | exact HR0.out | (with_reducible refine Kd.C_alloc ?_ _) | (with_reducible refine Kd.C_drewN ?_ _) | (with_reducible refine Kd.C_drew ?_))); (case side2 => exact HC0.out); rintro e w5 ⟨rfl, hb⟩; refine ⟨_, rfl, ?_⟩; have n0_ := Aside0.mk (below_step (by repeat (first | (with_reducible first | exact HB.out | apply below_alloc | apply pw_below_drewN | apply below_drew1) | exact HB.out)) hb); clear HB; have HB := n0_; clear n0_; (try clear hb); (try clear hb2); (try clear hk); (try clear hi)))
      go_loopg [5, 23] k (fun kq v5 v23 w' => ∃ (x5_1 : List Int) (x23_1 : Int), v23 = .int .i64 x23_1 ∧ Aside0 (fore_Put.l0 kq t123 x5_1 l0 (l0.length : Int) x23_1 = some (r1, r2)) ∧ Aside0 (kq ≤ k) ∧ Aside0 (Kd.R (Kd.int .u64) 22 w' w.heap.size (fun _ => True) v5 x5_1) ∧ Aside0 (Below w.heap.size w w'))
      case atStart => exact ⟨(([] : List Int)), (0), (by first | rfl | (simp; done) | (simp [*]; done)), H', ⟨Nat.le_refl _⟩, ⟨by first | exact Kd.R_nil _ _ _ _ _ | exact Kd.N_nil _ _ _ _ _ | exact Kd.V_nil _ _ _ _ _ | exact Kd.Q_nil _ _ _ _ _ | exact Kd.S_nil _ _ _ _ _⟩, ⟨by repeat (first | (with_reducible first | exact HB.out | apply below_alloc | apply pw_below_drewN | apply below_drew1) | exact HB.out)⟩⟩
      case round =>
        clear H'
        try clear c2
        try clear c2b0
        try clear c2b1
        try clear p2
        try clear c3
        try clear c3b0
        try clear c3b1
        try clear c3b2
        try clear c5
        obtain ⟨x5_1, x23_1, rfl, HA, HK1, HO_5, HB⟩ := hrel
        cases gk with
        | zero => exact absurd HA.out (by simp [fore_Put.l0])
        | succ k1 =>
          have H := HA.out
          clear HA
          simp only [fore_Put.l0] at H
          by_cases c6 : x23_1 < (l0.length : Int)
          · rw [if_pos c6] at H
            have c6b0 : decide (x23_1 < (l0.length : Int)) = true := decide_eq_true c6
            clear c6
            by_cases c7 : 0 ≤ x23_1
            · rw [if_pos c7] at H
              have c7b0 : decide (0 ≤ x23_1) = true := decide_eq_true c7
              clear c7
              by_cases c8 : x23_1 < (l0.length : Int)
              · rw [if_pos c8] at H
                have c8b0 : decide (x23_1 < (l0.length : Int)) = true := decide_eq_true c8
                clear c8
                by_cases c9 : x5_1.length < 17592186044416
                · rw [if_pos c9] at H
                  have LMc9 := Aside0.mk c9
                  clear c9
                  obtain ⟨y125, hy125⟩ : ∃ y_ : List Int, y_ = (x5_1 ++ [IntKind.u64.wrap ((IntKind.u64.wrap (rd l0 x23_1)) - (IntKind.u64.wrap (t123)))]) := ⟨_, rfl⟩
                  replace H : (fore_Put.l0 k1 t123 y125 l0 (l0.length : Int) (wrap64 (x23_1 + 1))) = some (r1, r2) := by first | (rw [hy125]; with_reducible exact H) | (have H2_ := (Option.bind_some _ _).symm.trans H; rw [hy125]; with_reducible exact H2_) | (have H2_ := (Option.bind_some _ _).symm.trans H; with_reducible exact H2_) | with_reducible exact H | (rw [hy125]; exact H) | exact H
                  have Ny125 := Aside0.mk hy125
                  clear hy125
                  have H' := Aside0.mk H
                  clear H
                  have p124 : 0 ≤ (x23_1 : Int) := of_decide_eq_true (by first | (with_reducible assumption) | assumption)
                  have q124 : x23_1 < (l0.length : Int) := of_decide_eq_true (by first | (with_reducible assumption) | assumption)
                  obtain ⟨ad124, e124, hx124_0⟩ := Kd.at_int HR0.out x23_1 p124 q124
                  cases e124
                  replace hx124_0 := (HB.out.cell (World.block_lt_of_cell? w _ hx124_0)).trans hx124_0
                  replace p124 := eq_true p124
                  replace q124 := eq_true q124
                  go_wp2_with (first | ((with_reducible refine gate_builtin (b := .append) (xs := #[.tmp 27, .tmp 33]) rfl ?_); at_builtin; refine Kd.R_append (Kd.int .u64) (w0 := w) w.heap.size rfl (.tmp 27) (.tmp 33) 85 22 (.int .u64 0) 8 rfl Tryd.underlying85 info22 rfl (by decide) (by omega) u5 x5_1 (IntKind.u64.wrap ((IntKind.u64.wrap (rd l0 x23_1)) - (IntKind.u64.wrap (t123)))) [.int .u64 (IntKind.u64.wrap ((IntKind.u64.wrap (rd l0 x23_1)) - (IntKind.u64.wrap (t123))))] (fun _ => True) (fun _ => False) rfl rfl ?aP (fun _ hk => hk.elim) ?aF ?aO ?aB ?aS ?aL ?_; (case aP => exact rfl); (case aB => exact (by repeat (first | (with_reducible first | exact HB.out | apply below_alloc | apply pw_below_drewN | apply below_drew1) | exact HB.out))); (case aF => exact (fun _ _ => trivial)); (case aO => exact (by (with_reducible repeat (first | apply Kd.R_alloc | apply Kd.R_drewN | apply Kd.R_drew)); exact HO_5.out)); (case aS => exact (below_size (by repeat (first | (with_reducible first | exact HB.out | apply below_alloc | apply pw_below_drewN | apply below_drew1) | exact HB.out)))); (case aL => have := LMc9.out; omega); intro v126 w10 ho hb hg hat; rw [← Ny125.out] at ho; have n0_ := Aside0.mk (hb); have n1_ := Aside0.mk (ho); clear HB; clear HO_5; have HB := n0_; have HO127 := n1_; clear n0_ n1_; clear ho hb hg hat))
                  go_roundg k1
                  case measure => have := HK1.out; omega
                  case rel => exact ⟨(y125), (wrap64 (x23_1 + 1)), (by first | rfl | (simp; done) | (simp [*]; done)), H', ⟨by have := HK1.out; omega⟩, ⟨by (with_reducible repeat (first | apply Kd.R_alloc | apply Kd.R_drewN | apply Kd.R_drew)); exact HO127.out⟩, ⟨by repeat (first | (with_reducible first | exact HB.out | apply below_alloc | apply pw_below_drewN | apply below_drew1) | exact HB.out)⟩⟩
                · rw [if_neg c9] at H
                  exact absurd H (by simp)
              · rw [if_neg c8] at H
                exact absurd H (by simp)
            · rw [if_neg c7] at H
              exact absurd H (by simp)
          · rw [if_neg c6] at H
            have c6b0 : decide (x23_1 < (l0.length : Int)) = false := decide_eq_false c6
            clear c6
            replace H := Option.bind_eq_some_iff.mp H
            obtain ⟨t128, A110, H⟩ := H
            replace H : ((bits_Pack.f k1 x5_1 t128).bind fun bt129 => ((num_Zig.f t123).bind fun t133 => ((num_PutVar.f k1 ([] : List Int) t133).bind fun t134 => (if t134.length < 140737488355328 then ((some (t134 ++ [(t128) % 256] : List Int)).bind fun y137 => (if y137.length + bt129.1.length < 140737488355328 then (some ((y137 ++ bt129.1), bt129.2)) else (none))) else (none))))) = some (r1, r2) := H
            have A11 := Aside0.mk A110
            clear A110
            replace H := Option.bind_eq_some_iff.mp H
            obtain ⟨⟨t129, t130⟩, A120, H⟩ := H
            replace H : ((num_Zig.f t123).bind fun t133 => ((num_PutVar.f k1 ([] : List Int) t133).bind fun t134 => (if t134.length < 140737488355328 then ((some (t134 ++ [(t128) % 256] : List Int)).bind fun y137 => (if y137.length + t129.length < 140737488355328 then (some ((y137 ++ t129), t130)) else (none))) else (none)))) = some (r1, r2) := H
            have A12 := Aside0.mk A120
            clear A120
            replace H := Option.bind_eq_some_iff.mp H
            obtain ⟨t133, A130, H⟩ := H
            replace H : ((num_PutVar.f k1 ([] : List Int) t133).bind fun t134 => (if t134.length < 140737488355328 then ((some (t134 ++ [(t128) % 256] : List Int)).bind fun y137 => (if y137.length + t129.length < 140737488355328 then (some ((y137 ++ t129), t130)) else (none))) else (none))) = some (r1, r2) := H
            have A13 := Aside0.mk A130
            clear A130
            replace H := Option.bind_eq_some_iff.mp H
            obtain ⟨t134, A140, H⟩ := H
            replace H : (if t134.length < 140737488355328 then ((some (t134 ++ [(t128) % 256] : List Int)).bind fun y137 => (if y137.length + t129.length < 140737488355328 then (some ((y137 ++ t129), t130)) else (none))) else (none)) = some (r1, r2) := H
            have A14 := Aside0.mk A140
            clear A140
            by_cases c15 : t134.length < 140737488355328
            · rw [if_pos c15] at H
              have LMc15 := Aside0.mk c15
              clear c15
              obtain ⟨y137, hy137⟩ : ∃ y_ : List Int, y_ = (t134 ++ [(t128) % 256]) := ⟨_, rfl⟩
              replace H : (if y137.length + t129.length < 140737488355328 then (some ((y137 ++ t129), t130)) else (none)) = some (r1, r2) := by first | (rw [hy137]; with_reducible exact H) | (have H2_ := (Option.bind_some _ _).symm.trans H; rw [hy137]; with_reducible exact H2_) | (have H2_ := (Option.bind_some _ _).symm.trans H; with_reducible exact H2_) | with_reducible exact H | (rw [hy137]; exact H) | exact H
              have Ny137 := Aside0.mk hy137
              clear hy137
              by_cases c16 : y137.length + t129.length < 140737488355328
              · rw [if_pos c16] at H
                have LMc16 := Aside0.mk c16
                clear c16
                obtain ⟨y140, hy140⟩ : ∃ y_ : List Int, y_ = (y137 ++ t129) := ⟨_, rfl⟩
                replace H : (some (y140, t130)) = some (r1, r2) := by first | (rw [hy140]; with_reducible exact H) | (have H2_ := (Option.bind_some _ _).symm.trans H; rw [hy140]; with_reducible exact H2_) | (have H2_ := (Option.bind_some _ _).symm.trans H; with_reducible exact H2_) | with_reducible exact H | (rw [hy140]; exact H) | exact H
                have Ny140 := Aside0.mk hy140
                clear hy140
                simp only [Option.some.injEq, Prod.mk.injEq] at H
                obtain ⟨rfl, rfl⟩ := H
                obtain ⟨Ao17, co17, eo17⟩ := Kd.R_slice HO_5.out
                subst eo17
                go_wp2_with (first | ((with_reducible refine gate_callee (f := 57) rfl ?_); refine goesL_ (some 37) rfl rfl Tryd.func57 (by kernel_rfl) rfl #[.slice Ao17 x5_1.length co17] rfl (by (try simp only [List.map_toArray, List.map_cons, List.map_nil]); first | done | rfl | (simp only [List.length_drop, List.length_take]; rfl)) ?_; (with_reducible refine (bits_Width.calls k1 _ _ x5_1 t128 _ ?side1 ?side2 A11.out).mono ?_); (case side1 => repeat (first | exact (Kd.R_reads' HO_5.out).2.2 | (with_reducible refine Kd.C_alloc ?_ _) | (with_reducible refine Kd.C_drewN ?_ _) | (with_reducible refine Kd.C_drew ?_))); (case side2 => exact (Kd.R_reads' HO_5.out).2.1); rintro e w' ⟨rfl, ⟨nd, rfl⟩⟩; refine ⟨_, rfl, ?_⟩) | ((with_reducible refine gate_callee (f := 68) rfl ?_); refine goesL_ (some 41) rfl rfl Tryd.func68 (by kernel_rfl) rfl #[.slice Ao17 x5_1.length co17, .int .i64 t128] rfl (by (try simp only [List.map_toArray, List.map_cons, List.map_nil]); first | done | rfl | (simp only [List.length_drop, List.length_take]; rfl)) ?_; (with_reducible refine (bits_Pack.calls k1 _ _ x5_1 t128 t129 t130 _ ?side1 ?side2 A12.out).mono ?_); (case side1 => repeat (first | exact (Kd.R_reads' HO_5.out).2.2 | (with_reducible refine Kd.C_alloc ?_ _) | (with_reducible refine Kd.C_drewN ?_ _) | (with_reducible refine Kd.C_drew ?_))); (case side2 => exact (Kd.R_reads' HO_5.out).2.1); rintro e w18 ⟨v131, rfl, ho0, hb⟩; refine ⟨_, rfl, ?_⟩; have n0_ := Aside0.mk (Kd.R_below (by (with_reducible repeat (first | apply Kd.R_alloc | apply Kd.R_drewN | apply Kd.R_drew)); exact HO_5.out) hb); have n1_ := Aside0.mk (Kd.R_lower ho0 (below_size (by repeat (first | (with_reducible first | exact HB.out | apply below_alloc | apply pw_below_drewN | apply below_drew1) | exact HB.out)))); have n2_ := Aside0.mk (below_step (by repeat (first | (with_reducible first | exact HB.out | apply below_alloc | apply pw_below_drewN | apply below_drew1) | exact HB.out)) hb); clear HO_5; clear HB; have HO_5 := n0_; have HO132 := n1_; have HB := n2_; clear n0_ n1_ n2_; (try clear hb); (try clear hb2); (try clear hk); (try clear hi); (try clear ho0)) | ((with_reducible refine gate_callee (f := 27) rfl ?_); refine goesL_ (some 45) rfl rfl Tryd.func27 (by kernel_rfl) rfl #[.int .i64 t123] rfl (by (try simp only [List.map_toArray, List.map_cons, List.map_nil]); first | done | rfl | (simp only [List.length_drop, List.length_take]; rfl)) ?_; (with_reducible refine (num_Zig.calls t123 t133 _ A13.out).mono ?_); rintro e w' ⟨rfl, ⟨nd, rfl⟩⟩; refine ⟨_, rfl, ?_⟩) | ((with_reducible refine gate_callee (f := 11) rfl ?_); refine goesL_ (some 46) rfl rfl Tryd.func11 (by kernel_rfl) rfl #[.slice none 0 0, .int .u64 t133] rfl (by (try simp only [List.map_toArray, List.map_cons, List.map_nil]); first | done | rfl | (simp only [List.length_drop, List.length_take]; rfl)) ?_; (refine (num_PutVar.calls k1 (fun k_ => some k_ = (.slice none 0 0 : Value).ownBlock) (.slice none 0 0) ([] : List Int) t133 t134 w _ ?side1 ?side2 A14.out).mono ?_); (case side1 => repeat (first | (with_reducible first | exact HB.out | apply below_alloc | apply pw_below_drewN | apply below_drew1) | exact HB.out)); (case side2 => exact Kd.R_nil _ _ _ _ _); rintro e w19 ⟨v135, rfl, ho0, hb, hkp⟩; refine ⟨_, rfl, ?_⟩; have n0_ := Aside0.mk (Kd.R_mono (ok' := fun k_ => True) (Kd.R_keptB (HO_5.out) hkp (fun k_ hk_ hs_ => (fun e_ => by simp [Value.ownBlock] at e_) hs_)) (fun k_ hk_ => trivial)); have n1_ := Aside0.mk (Kd.R_mono (ok' := fun k_ => some k_ ≠ (v135 : Value).ownBlock) (Kd.R_keptB (HO132.out) hkp (fun k_ hk_ hs_ => (fun e_ => by simp [Value.ownBlock] at e_) hs_)) (fun k_ hk_ => fun e_ => Or.elim (ho0.1 k_ e_.symm) (fun hs_ => hk_.2.1 hs_) (fun hn_ => Nat.not_le.2 hk_.2.2 hn_))); have n2_ := Aside0.mk (Kd.R_mono (ok' := fun k_ => some k_ ≠ (v131 : Value).ownBlock) ho0 (fun k_ hk_ => Or.elim hk_ (fun hs_ => absurd hs_ (by simp [Value.ownBlock])) (fun hn_ => (Kd.fresh' (Kd.R_lt (by (with_reducible repeat (first | apply Kd.R_alloc | apply Kd.R_drewN | apply Kd.R_drew)); exact HO132.out)) k_ hn_)))); have n3_ := Aside0.mk (hb); clear HO_5; clear HO132; clear HB; have HO_5 := n0_; have HO132 := n1_; have HO136 := n2_; have HB := n3_; clear n0_ n1_ n2_ n3_; (try clear hb); (try clear hkp); (try clear ho0)) | ((with_reducible refine gate_builtin (b := .append) (xs := #[.tmp 46, .tmp 49]) rfl ?_); at_builtin; refine Kd.R_append (Kd.int .u8) (w0 := w) w.heap.size rfl (.tmp 46) (.tmp 49) 23 5 (.int .u8 0) 1 rfl Tryd.underlying23 info5 rfl (by decide) (by omega) v135 t134 ((t128) % 256) [.int .u8 ((t128) % 256)] (fun k_ => some k_ ≠ (v131 : Value).ownBlock) (fun _ => False) rfl rfl ?aP (fun _ hk => hk.elim) ?aF ?aO ?aB ?aS ?aL ?_; (case aP => exact rfl); (case aB => exact (by repeat (first | (with_reducible first | exact HB.out | apply below_alloc | apply pw_below_drewN | apply below_drew1) | exact HB.out))); (case aF => exact (fun k_ hk => Kd.fresh' (Kd.R_lt (by (with_reducible repeat (first | apply Kd.R_alloc | apply Kd.R_drewN | apply Kd.R_drew)); exact HO132.out)) k_ hk)); (case aO => exact (by (with_reducible repeat (first | apply Kd.R_alloc | apply Kd.R_drewN | apply Kd.R_drew)); exact HO136.out)); (case aS => exact (below_size (by repeat (first | (with_reducible first | exact HB.out | apply below_alloc | apply pw_below_drewN | apply below_drew1) | exact HB.out)))); (case aL => have := LMc15.out; omega); intro v138 w20 ho hb hg hat; rw [← Ny137.out] at ho; have n0_ := Aside0.mk (Kd.R_over' (by (with_reducible repeat (first | apply Kd.R_alloc | apply Kd.R_drewN | apply Kd.R_drew)); exact HO_5.out) (Kd.R_typed (by (with_reducible repeat (first | apply Kd.R_alloc | apply Kd.R_drewN | apply Kd.R_drew)); exact HO136.out)) (by decide) hg); have n1_ := Aside0.mk (Kd.R_after (ok := (fun _ => True)) (by (with_reducible repeat (first | apply Kd.R_alloc | apply Kd.R_drewN | apply Kd.R_drew)); exact Kd.R_mono HO132.out (fun _ hk => ⟨trivial, hk⟩)) hg hat); have n2_ := Aside0.mk (hb); have n3_ := Aside0.mk (ho); clear HO_5; clear HO132; clear HB; clear HO136; have HO_5 := n0_; have HO132 := n1_; have HB := n2_; have HO139 := n3_; clear n0_ n1_ n2_ n3_; clear ho hb hg hat; obtain ⟨Ao22, co22, eo22⟩ := Kd.R_slice HO132.out; subst eo22) | ((with_reducible refine gate_builtin (b := .append) (xs := #[.tmp 50, .tmp 51]) rfl ?_); at_builtin; refine Kd.R_append_rows (Kd.int .u8) (w0 := w) w.heap.size rfl (.tmp 50) (.tmp 51) 23 5 (.int .u8 0) 1 rfl Tryd.underlying23 info5 rfl (by decide) (by omega) v138 y137 t129 _ _ _ (fun k_ => some k_ ≠ (.slice Ao22 t129.length co22 : Value).ownBlock) (fun _ => False) rfl rfl ?aO ?aR (fun _ _ h => h) (fun _ h => h.elim) ?aF ?aB ?aS ?aL ?_; (case aR => repeat (first | exact (Kd.R_reads' HO132.out).2.2 | (with_reducible refine Kd.C_alloc ?_ _) | (with_reducible refine Kd.C_drewN ?_ _) | (with_reducible refine Kd.C_drew ?_))); (case aB => exact (by repeat (first | (with_reducible first | exact HB.out | apply below_alloc | apply pw_below_drewN | apply below_drew1) | exact HB.out))); (case aF => exact (fun k_ hk => Kd.fresh' (Kd.R_lt (by (with_reducible repeat (first | apply Kd.R_alloc | apply Kd.R_drewN | apply Kd.R_drew)); exact HO132.out)) k_ hk)); (case aO => exact (by (with_reducible repeat (first | apply Kd.R_alloc | apply Kd.R_drewN | apply Kd.R_drew)); exact HO139.out)); (case aS => exact (below_size (by repeat (first | (with_reducible first | exact HB.out | apply below_alloc | apply pw_below_drewN | apply below_drew1) | exact HB.out)))); (case aL => have := LMc16.out; omega); intro v141 w21 ho hb hg hat; rw [← Ny140.out] at ho; have n0_ := Aside0.mk (Kd.R_over' (by (with_reducible repeat (first | apply Kd.R_alloc | apply Kd.R_drewN | apply Kd.R_drew)); exact HO_5.out) (Kd.R_typed (by (with_reducible repeat (first | apply Kd.R_alloc | apply Kd.R_drewN | apply Kd.R_drew)); exact HO139.out)) (by decide) hg); have n1_ := Aside0.mk (Kd.R_after (ok := (fun _ => True)) (by (with_reducible repeat (first | apply Kd.R_alloc | apply Kd.R_drewN | apply Kd.R_drew)); exact HO132.out) hg hat); have n2_ := Aside0.mk (hb); have n3_ := Aside0.mk (ho); clear HO_5; clear HO132; clear HB; clear HO139; have HO_5 := n0_; have HO132 := n1_; have HB := n2_; have HO142 := n3_; clear n0_ n1_ n2_ n3_; clear ho hb hg hat))
                go_ret2
                exact ⟨_, by first | rfl | (simp [errW_none, errW_some] <;> rfl) | (simp [*, errW_none, errW_some] <;> rfl), by (with_reducible repeat (first | apply Kd.R_alloc | apply Kd.R_drewN | apply Kd.R_drew)); exact Kd.R_mono HO142.out (fun _ hk => trivial), by repeat (first | (with_reducible first | exact HB.out | apply below_alloc | apply pw_below_drewN | apply below_drew1) | exact HB.out)⟩
              · rw [if_neg c16] at H
                exact absurd H (by simp)
            · rw [if_neg c15] at H
              exact absurd H (by simp)

/-! ### estreatlaw12_awake: function 45 -/
def estreatlaw12_awake.f (k : Nat)  : Option (Bool) := (fore_Put.f k (([100, 103, 101] : List Int))).bind fun bt146 => ((estreatref01_Same.f k bt146.1 (([200, 1, 2, 28] : List Int))).bind fun t153 => (if t153 = true then (some (bt146.2 == 0)) else (some false)))
theorem estreatlaw12_awake.mono : ∀ k, LeO (estreatlaw12_awake.f k ) (estreatlaw12_awake.f (k + 1) ) := by
  intro  k
  unfold estreatlaw12_awake.f
  repeat' first
      | (with_reducible exact estreatref01_Same.mono _ _ _)
      | (with_reducible exact fore_Put.mono _ _)
      | (with_reducible exact LeO.refl _)
      | (with_reducible exact LeO.none _)
      | (with_reducible refine LeO.ite ?_ ?_)
      | (with_reducible refine LeO.bind ?_ (fun _ => ?_))
      | exact estreatref01_Same.mono _ _ _
      | exact fore_Put.mono _ _
      | exact LeO.none _
      | refine LeO.ite ?_ ?_
      | refine LeO.bind ?_ (fun _ => ?_)
set_option maxHeartbeats 8000000 in
set_option maxRecDepth 100000 in
theorem estreatlaw12_awake.calls (k : Nat)  (r : Bool) (w : World) (h : estreatlaw12_awake.f k  = some r) :
    Calls Tryd.prog 45 #[] w fun e w' => e = .returned (.bool r) ∧ Below w.heap.size w w' := by
  have HB := Aside0.mk (Below.refl w.heap.size w)
  have H : ((fore_Put.f k (([100, 103, 101] : List Int))).bind fun bt146 => ((estreatref01_Same.f k bt146.1 (([200, 1, 2, 28] : List Int))).bind fun t153 => (if t153 = true then (some (bt146.2 == 0)) else (some false)))) = some r := h
  clear h
  obtain ⟨y143, hy143⟩ : ∃ y_ : List Int, y_ = (([100, 103, 101] : List Int)) := ⟨_, rfl⟩
  replace H : ((fore_Put.f k y143).bind fun bt146 => ((estreatref01_Same.f k bt146.1 (([200, 1, 2, 28] : List Int))).bind fun t153 => (if t153 = true then (some (bt146.2 == 0)) else (some false)))) = some r := by first | (rw [hy143]; with_reducible exact H) | (have H2_ := (Option.bind_some _ _).symm.trans H; rw [hy143]; with_reducible exact H2_) | (have H2_ := (Option.bind_some _ _).symm.trans H; with_reducible exact H2_) | with_reducible exact H | (rw [hy143]; exact H) | exact H
  have Ny143 := Aside0.mk hy143
  clear hy143
  replace H := Option.bind_eq_some_iff.mp H
  obtain ⟨⟨t146, t147⟩, A10, H⟩ := H
  replace H : ((estreatref01_Same.f k t146 (([200, 1, 2, 28] : List Int))).bind fun t153 => (if t153 = true then (some (t147 == 0)) else (some false))) = some r := H
  have A1 := Aside0.mk A10
  clear A10
  obtain ⟨y150, hy150⟩ : ∃ y_ : List Int, y_ = (([200, 1, 2, 28] : List Int)) := ⟨_, rfl⟩
  replace H : ((estreatref01_Same.f k t146 y150).bind fun t153 => (if t153 = true then (some (t147 == 0)) else (some false))) = some r := by first | (rw [hy150]; with_reducible exact H) | (have H2_ := (Option.bind_some _ _).symm.trans H; rw [hy150]; with_reducible exact H2_) | (have H2_ := (Option.bind_some _ _).symm.trans H; with_reducible exact H2_) | with_reducible exact H | (rw [hy150]; exact H) | exact H
  have Ny150 := Aside0.mk hy150
  clear hy150
  replace H := Option.bind_eq_some_iff.mp H
  obtain ⟨t153, A20, H⟩ := H
  replace H : (if t153 = true then (some (t147 == 0)) else (some false)) = some r := H
  have A2 := Aside0.mk A20
  clear A20
  by_cases c3 : t153 = true
  · subst c3
    have H1 : (some (t147 == 0)) = some r := by rw [if_pos rfl] at H; exact H
    clear H
    have H := H1
    clear H1
    obtain rfl := Option.some.inj H
    go_enter Tryd.func45, Tryd.ntmps45
    go_wp2_with (first | ((with_reducible refine gate_dst (N := 4) rfl ?_); refine Kd.R_lit (Kd.int .i64) _ 2 ?hg (N := 4) ?hd (xs := ([100, 103, 101] : List Int)) (inner := [.int .i64 100, .int .i64 103, .int .i64 101]) (ok := fun _ => True) (okp := fun _ => True) ?hr ?hp (fun _ hk => hk) trivial (Below.refl _ _) (Nat.le_refl _) (by simp) ?_; (case hd => rfl); (case hg => rfl); (case hr => first | (go_simp; done) | (go_simp; rfl)); (case hp => exact (Reps.one (show Kd.M (Kd.int .i64) _ _ _ 100 [.int .i64 100] from rfl) (Reps.one (show Kd.M (Kd.int .i64) _ _ _ 103 [.int .i64 103] from rfl) (Reps.one (show Kd.M (Kd.int .i64) _ _ _ 101 [.int .i64 101] from rfl) (Reps.none _ _))))); intro v144 w4 ho5 hb hg_ hnew_; clear hg_ hnew_; (first | rw [← Ny143.out] at ho5 | (simp only [Int.reduceToNat] at ho5; rw [← Ny143.out] at ho5)); have n0_ := Aside0.mk (Kd.R_lower ho5 (below_size (by repeat (first | (with_reducible first | exact HB.out | apply below_alloc | apply pw_below_drewN | apply below_drew1) | exact HB.out)))); have n1_ := Aside0.mk (below_step (by repeat (first | (with_reducible first | exact HB.out | apply below_alloc | apply pw_below_drewN | apply below_drew1) | exact HB.out)) hb); clear HB; have HO145 := n0_; have HB := n1_; clear n0_ n1_; clear hb ho5; obtain ⟨Ao6, co6, eo6⟩ := Kd.R_slice HO145.out; subst eo6) | ((with_reducible refine gate_callee (f := 55) rfl ?_); refine goesL_ (some 5) rfl rfl Tryd.func55 (by kernel_rfl) rfl #[.slice Ao6 y143.length co6] rfl (by (try simp only [List.map_toArray, List.map_cons, List.map_nil]); first | done | rfl | (simp only [List.length_drop, List.length_take]; rfl)) ?_; (with_reducible refine (fore_Put.calls k _ _ y143 t146 t147 _ ?side1 ?side2 A1.out).mono ?_); (case side1 => repeat (first | exact (Kd.R_reads' HO145.out).2.2 | (with_reducible refine Kd.C_alloc ?_ _) | (with_reducible refine Kd.C_drewN ?_ _) | (with_reducible refine Kd.C_drew ?_))); (case side2 => exact (Kd.R_reads' HO145.out).2.1); rintro e w7 ⟨v148, rfl, ho0, hb⟩; refine ⟨_, rfl, ?_⟩; have n0_ := Aside0.mk (Kd.R_below (by (with_reducible repeat (first | apply Kd.R_alloc | apply Kd.R_drewN | apply Kd.R_drew)); exact HO145.out) hb); have n1_ := Aside0.mk (Kd.R_lower ho0 (below_size (by repeat (first | (with_reducible first | exact HB.out | apply below_alloc | apply pw_below_drewN | apply below_drew1) | exact HB.out)))); have n2_ := Aside0.mk (below_step (by repeat (first | (with_reducible first | exact HB.out | apply below_alloc | apply pw_below_drewN | apply below_drew1) | exact HB.out)) hb); clear HO145; clear HB; have HO145 := n0_; have HO149 := n1_; have HB := n2_; clear n0_ n1_ n2_; (try clear hb); (try clear hb2); (try clear hk); (try clear hi); (try clear ho0)) | ((with_reducible refine gate_dst (N := 9) rfl ?_); refine Kd.R_lit (Kd.int .u8) _ 5 ?hg (N := 9) ?hd (xs := ([200, 1, 2, 28] : List Int)) (inner := [.int .u8 200, .int .u8 1, .int .u8 2, .int .u8 28]) (ok := fun _ => True) (okp := fun _ => True) ?hr ?hp (fun _ hk => hk) trivial (Below.refl _ _) (Nat.le_refl _) (by simp) ?_; (case hd => rfl); (case hg => rfl); (case hr => first | (go_simp; done) | (go_simp; rfl)); (case hp => exact (Reps.one (show Kd.M (Kd.int .u8) _ _ _ 200 [.int .u8 200] from rfl) (Reps.one (show Kd.M (Kd.int .u8) _ _ _ 1 [.int .u8 1] from rfl) (Reps.one (show Kd.M (Kd.int .u8) _ _ _ 2 [.int .u8 2] from rfl) (Reps.one (show Kd.M (Kd.int .u8) _ _ _ 28 [.int .u8 28] from rfl) (Reps.none _ _)))))); intro v151 w8 ho9 hb hg_ hnew_; clear hg_ hnew_; (first | rw [← Ny150.out] at ho9 | (simp only [Int.reduceToNat] at ho9; rw [← Ny150.out] at ho9)); have n0_ := Aside0.mk (Kd.R_below (by (with_reducible repeat (first | apply Kd.R_alloc | apply Kd.R_drewN | apply Kd.R_drew)); exact HO145.out) hb); have n1_ := Aside0.mk (Kd.R_elder' (by (with_reducible repeat (first | apply Kd.R_alloc | apply Kd.R_drewN | apply Kd.R_drew)); exact HO149.out) (Kd.R_base ho9) hb); have n2_ := Aside0.mk (Kd.R_lower (Kd.R_new' ho9 (Kd.R_lt (by (with_reducible repeat (first | apply Kd.R_alloc | apply Kd.R_drewN | apply Kd.R_drew)); exact HO149.out))) (below_size (by repeat (first | (with_reducible first | exact HB.out | apply below_alloc | apply pw_below_drewN | apply below_drew1) | exact HB.out)))); have n3_ := Aside0.mk (below_step (by repeat (first | (with_reducible first | exact HB.out | apply below_alloc | apply pw_below_drewN | apply below_drew1) | exact HB.out)) hb); clear HO145; clear HO149; clear HB; have HO145 := n0_; have HO149 := n1_; have HO152 := n2_; have HB := n3_; clear n0_ n1_ n2_ n3_; clear hb ho9; obtain ⟨Ao10, co10, eo10⟩ := Kd.R_slice HO149.out; subst eo10; obtain ⟨Ao11, co11, eo11⟩ := Kd.R_slice HO152.out; subst eo11) | ((with_reducible refine gate_callee (f := 25) rfl ?_); refine goesL_ (some 10) rfl rfl Tryd.func25 (by kernel_rfl) rfl #[.slice Ao10 t146.length co10, .slice Ao11 y150.length co11] rfl (by (try simp only [List.map_toArray, List.map_cons, List.map_nil]); first | done | rfl | (simp only [List.length_drop, List.length_take]; rfl)) ?_; (with_reducible refine (estreatref01_Same.calls k _ _ t146 _ _ y150 true _ ?side1 ?side2 ?side3 ?side4 A2.out).mono ?_); (case side1 => repeat (first | exact (Kd.R_reads' HO149.out).2.2 | (with_reducible refine Kd.C_alloc ?_ _) | (with_reducible refine Kd.C_drewN ?_ _) | (with_reducible refine Kd.C_drew ?_))); (case side2 => exact (Kd.R_reads' HO149.out).2.1); (case side3 => repeat (first | exact (Kd.R_reads' HO152.out).2.2 | (with_reducible refine Kd.C_alloc ?_ _) | (with_reducible refine Kd.C_drewN ?_ _) | (with_reducible refine Kd.C_drew ?_))); (case side4 => exact (Kd.R_reads' HO152.out).2.1); rintro e w' ⟨rfl, ⟨nd, rfl⟩⟩; refine ⟨_, rfl, ?_⟩))
    go_ret
    exact ⟨by first | rfl | (simp [errW_none, errW_some] <;> rfl) | (simp [*, errW_none, errW_some] <;> rfl), by repeat (first | (with_reducible first | exact HB.out | apply below_alloc | apply pw_below_drewN | apply below_drew1) | exact HB.out)⟩
  · replace c3 := Bool.eq_false_iff.mpr c3
    subst c3
    have H1 : (some false) = some r := by rw [if_neg (show ¬ (false = true) by decide)] at H; exact H
    clear H
    have H := H1
    clear H1
    obtain rfl := Option.some.inj H
    go_enter Tryd.func45, Tryd.ntmps45
    go_wp2_with (first | ((with_reducible refine gate_dst (N := 4) rfl ?_); refine Kd.R_lit (Kd.int .i64) _ 2 ?hg (N := 4) ?hd (xs := ([100, 103, 101] : List Int)) (inner := [.int .i64 100, .int .i64 103, .int .i64 101]) (ok := fun _ => True) (okp := fun _ => True) ?hr ?hp (fun _ hk => hk) trivial (Below.refl _ _) (Nat.le_refl _) (by simp) ?_; (case hd => rfl); (case hg => rfl); (case hr => first | (go_simp; done) | (go_simp; rfl)); (case hp => exact (Reps.one (show Kd.M (Kd.int .i64) _ _ _ 100 [.int .i64 100] from rfl) (Reps.one (show Kd.M (Kd.int .i64) _ _ _ 103 [.int .i64 103] from rfl) (Reps.one (show Kd.M (Kd.int .i64) _ _ _ 101 [.int .i64 101] from rfl) (Reps.none _ _))))); intro v144 w12 ho13 hb hg_ hnew_; clear hg_ hnew_; (first | rw [← Ny143.out] at ho13 | (simp only [Int.reduceToNat] at ho13; rw [← Ny143.out] at ho13)); have n0_ := Aside0.mk (Kd.R_lower ho13 (below_size (by repeat (first | (with_reducible first | exact HB.out | apply below_alloc | apply pw_below_drewN | apply below_drew1) | exact HB.out)))); have n1_ := Aside0.mk (below_step (by repeat (first | (with_reducible first | exact HB.out | apply below_alloc | apply pw_below_drewN | apply below_drew1) | exact HB.out)) hb); clear HB; have HO145 := n0_; have HB := n1_; clear n0_ n1_; clear hb ho13; obtain ⟨Ao14, co14, eo14⟩ := Kd.R_slice HO145.out; subst eo14) | ((with_reducible refine gate_callee (f := 55) rfl ?_); refine goesL_ (some 5) rfl rfl Tryd.func55 (by kernel_rfl) rfl #[.slice Ao14 y143.length co14] rfl (by (try simp only [List.map_toArray, List.map_cons, List.map_nil]); first | done | rfl | (simp only [List.length_drop, List.length_take]; rfl)) ?_; (with_reducible refine (fore_Put.calls k _ _ y143 t146 t147 _ ?side1 ?side2 A1.out).mono ?_); (case side1 => repeat (first | exact (Kd.R_reads' HO145.out).2.2 | (with_reducible refine Kd.C_alloc ?_ _) | (with_reducible refine Kd.C_drewN ?_ _) | (with_reducible refine Kd.C_drew ?_))); (case side2 => exact (Kd.R_reads' HO145.out).2.1); rintro e w15 ⟨v148, rfl, ho0, hb⟩; refine ⟨_, rfl, ?_⟩; have n0_ := Aside0.mk (Kd.R_below (by (with_reducible repeat (first | apply Kd.R_alloc | apply Kd.R_drewN | apply Kd.R_drew)); exact HO145.out) hb); have n1_ := Aside0.mk (Kd.R_lower ho0 (below_size (by repeat (first | (with_reducible first | exact HB.out | apply below_alloc | apply pw_below_drewN | apply below_drew1) | exact HB.out)))); have n2_ := Aside0.mk (below_step (by repeat (first | (with_reducible first | exact HB.out | apply below_alloc | apply pw_below_drewN | apply below_drew1) | exact HB.out)) hb); clear HO145; clear HB; have HO145 := n0_; have HO149 := n1_; have HB := n2_; clear n0_ n1_ n2_; (try clear hb); (try clear hb2); (try clear hk); (try clear hi); (try clear ho0)) | ((with_reducible refine gate_dst (N := 9) rfl ?_); refine Kd.R_lit (Kd.int .u8) _ 5 ?hg (N := 9) ?hd (xs := ([200, 1, 2, 28] : List Int)) (inner := [.int .u8 200, .int .u8 1, .int .u8 2, .int .u8 28]) (ok := fun _ => True) (okp := fun _ => True) ?hr ?hp (fun _ hk => hk) trivial (Below.refl _ _) (Nat.le_refl _) (by simp) ?_; (case hd => rfl); (case hg => rfl); (case hr => first | (go_simp; done) | (go_simp; rfl)); (case hp => exact (Reps.one (show Kd.M (Kd.int .u8) _ _ _ 200 [.int .u8 200] from rfl) (Reps.one (show Kd.M (Kd.int .u8) _ _ _ 1 [.int .u8 1] from rfl) (Reps.one (show Kd.M (Kd.int .u8) _ _ _ 2 [.int .u8 2] from rfl) (Reps.one (show Kd.M (Kd.int .u8) _ _ _ 28 [.int .u8 28] from rfl) (Reps.none _ _)))))); intro v151 w16 ho17 hb hg_ hnew_; clear hg_ hnew_; (first | rw [← Ny150.out] at ho17 | (simp only [Int.reduceToNat] at ho17; rw [← Ny150.out] at ho17)); have n0_ := Aside0.mk (Kd.R_below (by (with_reducible repeat (first | apply Kd.R_alloc | apply Kd.R_drewN | apply Kd.R_drew)); exact HO145.out) hb); have n1_ := Aside0.mk (Kd.R_elder' (by (with_reducible repeat (first | apply Kd.R_alloc | apply Kd.R_drewN | apply Kd.R_drew)); exact HO149.out) (Kd.R_base ho17) hb); have n2_ := Aside0.mk (Kd.R_lower (Kd.R_new' ho17 (Kd.R_lt (by (with_reducible repeat (first | apply Kd.R_alloc | apply Kd.R_drewN | apply Kd.R_drew)); exact HO149.out))) (below_size (by repeat (first | (with_reducible first | exact HB.out | apply below_alloc | apply pw_below_drewN | apply below_drew1) | exact HB.out)))); have n3_ := Aside0.mk (below_step (by repeat (first | (with_reducible first | exact HB.out | apply below_alloc | apply pw_below_drewN | apply below_drew1) | exact HB.out)) hb); clear HO145; clear HO149; clear HB; have HO145 := n0_; have HO149 := n1_; have HO152 := n2_; have HB := n3_; clear n0_ n1_ n2_ n3_; clear hb ho17; obtain ⟨Ao18, co18, eo18⟩ := Kd.R_slice HO149.out; subst eo18; obtain ⟨Ao19, co19, eo19⟩ := Kd.R_slice HO152.out; subst eo19) | ((with_reducible refine gate_callee (f := 25) rfl ?_); refine goesL_ (some 10) rfl rfl Tryd.func25 (by kernel_rfl) rfl #[.slice Ao18 t146.length co18, .slice Ao19 y150.length co19] rfl (by (try simp only [List.map_toArray, List.map_cons, List.map_nil]); first | done | rfl | (simp only [List.length_drop, List.length_take]; rfl)) ?_; (with_reducible refine (estreatref01_Same.calls k _ _ t146 _ _ y150 false _ ?side1 ?side2 ?side3 ?side4 A2.out).mono ?_); (case side1 => repeat (first | exact (Kd.R_reads' HO149.out).2.2 | (with_reducible refine Kd.C_alloc ?_ _) | (with_reducible refine Kd.C_drewN ?_ _) | (with_reducible refine Kd.C_drew ?_))); (case side2 => exact (Kd.R_reads' HO149.out).2.1); (case side3 => repeat (first | exact (Kd.R_reads' HO152.out).2.2 | (with_reducible refine Kd.C_alloc ?_ _) | (with_reducible refine Kd.C_drewN ?_ _) | (with_reducible refine Kd.C_drew ?_))); (case side4 => exact (Kd.R_reads' HO152.out).2.1); rintro e w' ⟨rfl, ⟨nd, rfl⟩⟩; refine ⟨_, rfl, ?_⟩))
    go_ret
    exact ⟨by first | rfl | (simp [errW_none, errW_some] <;> rfl) | (simp [*, errW_none, errW_some] <;> rfl), by repeat (first | (with_reducible first | exact HB.out | apply below_alloc | apply pw_below_drewN | apply below_drew1) | exact HB.out)⟩

/-! ### bytes_Clone: function 48 -/
def bytes_Clone.f (l0 : List Int) : Option (List Int) := if l0.length * 1 ≤ 140737488355328 then some l0 else none
theorem bytes_Clone.info : (Tryd.prog.info? 5).map (fun i => (i.zero, i.size, i.bytes)) = some (some (.int .u8 0), 1, 1) := by kernel_rfl
theorem bytes_Clone.under : Tryd.prog.underlying 23 = some (.slice 5) := by kernel_rfl
set_option maxHeartbeats 4000000 in
theorem bytes_Clone.calls (A0 : Option Addr) (c0 : Nat) (l0 : List Int) (r : List Int) (w : World) (hr0 : (Kd.int .u8).C w A0 l0.length l0) (hc0 : l0.length ≤ c0) (h : bytes_Clone.f l0 = some r) :
    Calls Tryd.prog 48 #[.slice A0 l0.length c0] w fun e w' => ∃ v0_ : Value, e = .returned v0_ ∧ (Kd.int .u8).R 5 w' w.heap.size (fun _ => True) v0_ r ∧ Below w.heap.size w w' := by
  unfold bytes_Clone.f at h
  by_cases hl : l0.length * 1 ≤ 140737488355328
  · rw [if_pos hl] at h
    obtain rfl := Option.some.inj h
    cases A0 with
    | none =>
      have h0 : l0 = [] := by
        rcases l0 with _ | ⟨x, l⟩
        · rfl
        · obtain ⟨ad, e, _⟩ := hr0.2.2 (by simp)
          cases e
      subst h0
      have e1 : ∀ w, (binOp BinOp.eql 23 (.slice none ([] : List Int).length c0) (.slice none 0 0)).run Tryd.prog w = .ok (.bool true) w := fun w => by kernel_rfl
      simp only [List.length_nil] at e1 ⊢
      go_enter Tryd.func48, Tryd.ntmps48
      go_wp2
      go_ret
      exact ⟨_, rfl, Kd.R_nil _ _ _ _ _, Below.refl _ _⟩
    | some ad =>
      have e1 : ∀ w, (binOp BinOp.eql 23 (.slice (some ad) l0.length c0) (.slice none 0 0)).run Tryd.prog w = .ok (.bool false) w := fun w => by kernel_rfl
      have hB1 : Below w.heap.size w (w.alloc (.cells #[] 5)) := below_alloc (Below.refl _ _) _
      have hR1 : (Kd.int .u8).R 5 (w.alloc (.cells #[] 5)) w.heap.size (fun _ => True) (.slice (some ⟨w.heap.size, 0, none⟩) 0 0) [] :=
        Kd.R_of_own (h1 := fun _ => rfl) (by simpa [encs] using World.ownsRow_lit (base := w.heap.size) (e := 5) (size := 1) w #[] 0 (Nat.le_refl _) (by decide) (by simp)) (fun _ _ => trivial)
      have hC1 := Kd.C_below hr0 hB1
      go_enter Tryd.func48, Tryd.ntmps48
      go_wp2_with ((with_reducible refine gate_builtin (b := .append) (xs := #[.tmp 5, .tmp 6]) rfl ?_); at_builtin; refine Kd.R_append_rows (Kd.int .u8) (w0 := w) w.heap.size rfl (.tmp 5) (.tmp 6) 23 5 (.int .u8 0) 1 rfl bytes_Clone.under bytes_Clone.info rfl (by decide) (by omega) _ [] l0 _ _ _ (fun _ => True) (fun _ => False) rfl rfl hR1 hC1 (fun _ _ h => h) (fun _ h => h.elim) (fun _ _ => trivial) hB1 (by simp) (by simpa using hl) ?_; intro v1 w1 ho hb hg hat)
      go_ret
      exact ⟨_, rfl, by simpa using ho, hb⟩
  · rw [if_neg hl] at h; cases h

/-- What a num.Reader's state leads to beside its own block: its bytes' block and its fault's block, told by their types. -/
def NeRd (W : World) (g : Nat) (x : Option Nat) : Prop := some g ≠ x ∧ ∀ F cs t, (t = 79 ∨ t = 5) → W.heap[F]? = some (.cells cs t (0, 0)) → some F ≠ x
/-- An error's value: none, or a fault at a block of its own. -/
def FaultAt (w0 W : World) (ev : Value) (e at_ : Int) : Prop :=
  (e = 0 ∧ at_ = 0 ∧ ev = .nilIface) ∨ (e ≠ 0 ∧ ∃ F, ev = .iface 74 (.pointer (some ⟨F, 0, none⟩)) ∧ W.heap[F]? = some (.cells #[.int .i64 at_, .iface 30 (.int .i64 e)] 79 (0, 0)) ∧ w0.heap.size ≤ F)
theorem FaultAt.same {w0 W W1 : World} {ev : Value} {e at_ : Int} (h : FaultAt w0 W ev e at_) (hk : ∀ (F : Nat) (cs : Array Value), W.heap[F]? = some (.cells cs 79 (0, 0)) → W1.heap[F]? = W.heap[F]?) : FaultAt w0 W1 ev e at_ := by
  rcases h with h | ⟨h0, F, h1, h2, h3⟩
  · exact .inl h
  · exact .inr ⟨h0, F, h1, (hk F _ h2).trans h2, h3⟩
/-- The variable of package errors that calls lead to is as the program's start left it. -/
def HG (w : World) : Prop := w.cell? ⟨0, 0, none⟩ = some (.iface 109 (.agg #[.pointer (some ⟨1, 69, none⟩)]))
theorem HG.heap {w W : World} (h : HG w) (hk : ∀ k, k < w.heap.size → W.heap[k]? = w.heap[k]?) : HG W := by
  have h0 : 0 < w.heap.size := Go.block_lt_of_cell (a := ⟨0, 0, none⟩) h
  unfold HG World.cell? at *
  rw [hk 0 h0]; exact h
theorem HG.below {w W : World} (hB : Below w.heap.size w W) (h : HG w) : HG W := h.heap (fun k hk => hB.block k hk)
/-- A num.Reader at block g of W. -/
def IsS71 (w0 W : World) (g : Nat) (f0 : List Int) (f1 : Int) (f2 : Int) (f3 : Int) : Prop :=
  ∃ A0 c0 ev, W.heap[g]? = some (.cells #[.slice A0 f0.length c0, .int .i64 f1, ev] 71 (0, 0)) ∧ w0.heap.size ≤ g ∧ (Kd.int .u8).R 5 W w0.heap.size (fun k => some k = (Value.slice A0 f0.length c0).ownBlock) (.slice A0 f0.length c0) f0 ∧ FaultAt w0 W ev f2 f3 ∧ HG w0
section
variable {w0 W : World} {g : Nat} {f0 : List Int} {f1 f2 f3 : Int}
theorem IsS71.same {W1 : World} (h : IsS71 w0 W g f0 f1 f2 f3) (hk : ∀ (k : Nat) (cs : Array Value) (t : Nat), (t = 71 ∧ k = g ∨ t = 79 ∨ t = 5) → W.heap[k]? = some (.cells cs t (0, 0)) → W1.heap[k]? = W.heap[k]?) : IsS71 w0 W1 g f0 f1 f2 f3 := by
  obtain ⟨A, c, ev, hb, hg, hr, hf, hG⟩ := h
  refine ⟨A, c, ev, (hk g _ _ (.inl ⟨rfl, rfl⟩) hb).trans hb, hg, ?_, hf.same (fun F cs hF => hk F cs _ (.inr (.inl rfl)) hF), hG⟩
  have hty := Kd.R_typed hr
  exact Kd.R_step hr (fun k ho hlt => by obtain ⟨cs, hcs⟩ := hty k ho.symm; exact hk k cs _ (.inr (.inr rfl)) hcs)
theorem IsS71.grown {W1 : World} {row : Option Nat} (h : IsS71 w0 W g f0 f1 f2 f3) (hw : W.grownBy W1 row) (hne : some g ≠ row ∧ ∀ F cs t, (t = 79 ∨ t = 5) → W.heap[F]? = some (.cells cs t (0, 0)) → some F ≠ row) : IsS71 w0 W1 g f0 f1 f2 f3 :=
  h.same (fun k cs t ht hc => hw.block k (blk_lt hc) (by
    rcases ht with ⟨_, rfl⟩ | ht
    · exact hne.1
    · exact hne.2 k cs t ht hc))
theorem IsS71.fresh (h : IsS71 w0 W g f0 f1 f2 f3) : ∀ k, W.heap.size ≤ k → k ≠ g := by
  obtain ⟨A, c, ev, hb, _⟩ := h
  exact Kd.freshB hb
theorem IsS71.kept {W1 : World} {S : Nat → Prop} (h : IsS71 w0 W g f0 f1 f2 f3) (hk : Kept W W1 S) (hne : ∀ k cs t, (t = 71 ∧ k = g ∨ t = 79 ∨ t = 5) → W.heap[k]? = some (.cells cs t (0, 0)) → ¬ S k) : IsS71 w0 W1 g f0 f1 f2 f3 :=
  h.same (fun k cs t ht hc => hk.2 k (blk_lt hc) (hne k cs t ht hc))
theorem IsS71.below {W1 : World} (h : IsS71 w0 W g f0 f1 f2 f3) (hw : Below W.heap.size W W1) : IsS71 w0 W1 g f0 f1 f2 f3 := h.same (fun k _ _ _ hc => hw.block k (blk_lt hc))
theorem IsS71.alloc (h : IsS71 w0 W g f0 f1 f2 f3) (o : Obj) : IsS71 w0 (W.alloc o) g f0 f1 f2 f3 := h.below (below_alloc (Below.refl _ _) o)
theorem IsS71.drewN (h : IsS71 w0 W g f0 f1 f2 f3) (m : Nat) : IsS71 w0 (W.drewN m) g f0 f1 f2 f3 := h.below (pw_below_drewN (Below.refl _ _) m)
theorem IsS71.drew (h : IsS71 w0 W g f0 f1 f2 f3) : IsS71 w0 W.drew g f0 f1 f2 f3 := h.below (below_drew1 (Below.refl _ _))
theorem IsS71.at_ {w' : World} {m : Nat} (hq : W.drewN m = w') (h : IsS71 w0 W g f0 f1 f2 f3) : IsS71 w0 w' g f0 f1 f2 f3 := by subst hq; exact IsS71.drewN h m
theorem IsS71.lt (h : IsS71 w0 W g f0 f1 f2 f3) : g < W.heap.size := by
  obtain ⟨A, c, ev, hb, _⟩ := h
  exact blk_lt hb
theorem IsS71.ge (h : IsS71 w0 W g f0 f1 f2 f3) : w0.heap.size ≤ g := by
  obtain ⟨A, c, ev, _, hg, _⟩ := h
  exact hg
theorem IsS71.ne_blk {a : Nat} {cs : Array Value} {t : TypeId} {fr : Nat × Nat} (h : IsS71 w0 W g f0 f1 f2 f3) (hb2 : W.heap[a]? = some (.cells cs t fr)) (ht : t ≠ 71) : g ≠ a := by
  obtain ⟨A, c, ev, hb, _⟩ := h
  rintro rfl
  rw [hb] at hb2
  injection hb2 with hb2
  injection hb2 with _ ht2
  exact ht ht2.symm
theorem IsS71.cellset (h : IsS71 w0 W g f0 f1 f2 f3) (j : Nat) (u : Value) : ∃ A0 c0 ev, (W.setCell ⟨g, j, none⟩ u).heap[g]? = some (.cells (#[.slice A0 f0.length c0, .int .i64 f1, ev].setIfInBounds j u) 71 (0, 0)) ∧ w0.heap.size ≤ g ∧ (Kd.int .u8).R 5 (W.setCell ⟨g, j, none⟩ u) w0.heap.size (fun k => some k = (Value.slice A0 f0.length c0).ownBlock) (.slice A0 f0.length c0) f0 ∧ FaultAt w0 (W.setCell ⟨g, j, none⟩ u) ev f2 f3 ∧ HG w0 := by
  obtain ⟨A, c, ev, hb, hg, hr, hf, hG⟩ := h
  have hne := Kd.R_ne hr hb (by decide)
  refine ⟨A, c, ev, blk_set hb j u, hg, Kd.R_far hr (fun k hk (e : k = g) => hne (by rw [← e]; exact hk)) u, hf.same (fun F cs hF => Below.heap_setCell W ⟨g, j, none⟩ u F (fun e => ?_)), hG⟩
  rw [show F = g from e, hb] at hF
  injection hF with hF
  injection hF with _ ht
  exact absurd ht (by decide)
theorem IsS71.set_1 (h : IsS71 w0 W g f0 f1 f2 f3) (x : Int) : IsS71 w0 (W.setCell ⟨g, 1, none⟩ (.int .i64 x)) g f0 x f2 f3 := by
  obtain ⟨A, c, ev, hb, hg, hr, hf, hG⟩ := h.cellset 1 (.int .i64 x)
  exact ⟨A, c, ev, by simpa using hb, hg, hr, hf, hG⟩
theorem IsS71.fail (h : IsS71 w0 W g f0 f1 f2 f3) {e : Int} (he : e ≠ 0) (at_ : Int) : IsS71 w0 ((W.setCell ⟨g, 2, none⟩ (.iface 74 (.pointer (some ⟨W.heap.size, 0, none⟩)))).alloc (.cells #[.int .i64 at_, .iface 30 (.int .i64 e)] 79)) g f0 f1 e at_ := by
  have hlt := h.lt
  obtain ⟨A, c, ev, hb, hg, hr, hf, hG⟩ := h.cellset 2 (.iface 74 (.pointer (some ⟨W.heap.size, 0, none⟩)))
  refine ⟨A, c, _, blk_below hb (below_alloc (Below.refl _ _) _), hg, Kd.R_below hr (below_alloc (Below.refl _ _) _), .inr ⟨he, W.heap.size, by simp, ?_, by omega⟩, hG⟩
  have := heap_alloc_new (W.setCell ⟨g, 2, none⟩ (.iface 74 (.pointer (some ⟨W.heap.size, 0, none⟩)))) (.cells #[.int .i64 at_, .iface 30 (.int .i64 e)] 79)
  simpa using this
variable {α : Type} {d : Kd α} {e : Nat} {base : Nat} {ok : Nat → Prop} {v : Value} {xs : List α}
theorem IsS71.own_neN (h : IsS71 w0 W g f0 f1 f2 f3) (ho : Kd.N d e W base ok v xs) (ht : e ≠ 71 ∧ e ≠ 79 ∧ e ≠ 5) : NeRd W g v.ownBlock := by
  obtain ⟨A, c, ev, hb, _⟩ := h
  refine ⟨Kd.N_ne ho hb ht.1, ?_⟩
  rintro F cs t (rfl | rfl) hF
  · exact Kd.N_ne ho hF ht.2.1
  · exact Kd.N_ne ho hF ht.2.2
theorem IsS71.own_ne (h : IsS71 w0 W g f0 f1 f2 f3) (ho : Kd.R d e W base ok v xs) (ht : e ≠ 71 ∧ e ≠ 79 ∧ e ≠ 5) : NeRd W g v.ownBlock := by
  obtain ⟨A, c, ev, hb, _⟩ := h
  refine ⟨Kd.R_ne ho hb ht.1, ?_⟩
  rintro F cs t (rfl | rfl) hF
  · exact Kd.R_ne ho hF ht.2.1
  · exact Kd.R_ne ho hF ht.2.2
theorem IsS71.apart (h : IsS71 w0 W g f0 f1 f2 f3) (ho : Kd.R d e W base ok v xs) (ht : ∀ q, q ∈ e :: d.E → q ≠ 71) : Kd.R d e W base (fun k => ok k ∧ k ≠ g) v xs := by
  obtain ⟨A, c, ev, hb, _⟩ := h
  exact Kd.R_types ho hb ht
theorem IsS71.own_neQ (h : IsS71 w0 W g f0 f1 f2 f3) (ho : Kd.Q d e W base ok v xs) (ht : e ≠ 71 ∧ e ≠ 79 ∧ e ≠ 5) : NeRd W g v.ownBlock := by
  obtain ⟨A, c, ev, hb, _⟩ := h
  refine ⟨Kd.Q_ne ho hb ht.1, ?_⟩
  rintro F cs t (rfl | rfl) hF
  · exact Kd.Q_ne ho hF ht.2.1
  · exact Kd.Q_ne ho hF ht.2.2
theorem IsS71.apartQ (h : IsS71 w0 W g f0 f1 f2 f3) (ho : Kd.Q d e W base ok v xs) (ht : ∀ q, q ∈ e :: d.E → q ≠ 71) : Kd.Q d e W base (fun k => ok k ∧ k ≠ g) v xs := by
  obtain ⟨A, c, ev, hb, _⟩ := h
  exact Kd.Q_types ho hb ht
theorem IsS71.own_neS (h : IsS71 w0 W g f0 f1 f2 f3) (ho : Kd.S d e W base ok v xs) (ht : e ≠ 71 ∧ e ≠ 79 ∧ e ≠ 5) : NeRd W g v.ownBlock := by
  obtain ⟨A, c, ev, hb, _⟩ := h
  refine ⟨Kd.S_ne ho hb ht.1, ?_⟩
  rintro F cs t (rfl | rfl) hF
  · exact Kd.S_ne ho hF ht.2.1
  · exact Kd.S_ne ho hF ht.2.2
theorem IsS71.apartS (h : IsS71 w0 W g f0 f1 f2 f3) (ho : Kd.S d e W base ok v xs) (ht : ∀ q, q ∈ e :: d.E → q ≠ 71) : Kd.S d e W base (fun k => ok k ∧ k ≠ g) v xs := by
  obtain ⟨A, c, ev, hb, _⟩ := h
  exact Kd.S_types ho hb ht
end


/-! ### num_NewReader: function 13 -/
def num_NewReader.f (l0 : List Int) : Option (List Int × Int × Int × Int) := if l0.length * 1 ≤ 140737488355328 then some (l0, 0, 0, 0) else none
set_option maxHeartbeats 4000000 in
theorem num_NewReader.calls (A0 : Option Addr) (c0 : Nat) (l0 : List Int) (r1 : List Int) (r2 : Int) (r3 : Int) (r4 : Int) (w0 w : World) (hB : Below w0.heap.size w0 w) (hr0 : (Kd.int .u8).C w A0 l0.length l0) (hc0 : l0.length ≤ c0) (hG : HG w0) (h : num_NewReader.f l0 = some (r1, r2, r3, r4)) :
    Calls Tryd.prog 13 #[.slice A0 l0.length c0] w fun e w' => ∃ g_ : Nat, e = .returned (.pointer (some ⟨g_, 0, none⟩)) ∧ IsS71 w0 w' g_ r1 r2 r3 r4 ∧ Below w0.heap.size w0 w' ∧ Below w.heap.size w w' := by
  unfold num_NewReader.f at h
  by_cases hl : l0.length * 1 ≤ 140737488355328
  · rw [if_pos hl] at h
    simp only [Option.some.injEq, Prod.mk.injEq] at h
    obtain ⟨rfl, rfl, rfl, rfl⟩ := h
    have hf : bytes_Clone.f l0 = some l0 := by unfold bytes_Clone.f; rw [if_pos hl]
    go_enter Tryd.func13, Tryd.ntmps13
    go_wp2_with (go_at_call 48; refine (bytes_Clone.calls A0 c0 l0 l0 w hr0 hc0 hf).mono ?_; rintro e w' ⟨v, rfl, hR, hB1⟩; obtain ⟨A, c, rfl⟩ := Kd.R_slice hR)
    go_ret
    have hB2 := below_step hB hB1
    have hR2 := Kd.R_lower hR (below_size hB)
    have hR3 : (Kd.int .u8).R 5 w' w0.heap.size (fun k => some k = (Value.slice A l0.length c).ownBlock) (.slice A l0.length c) l0 := Kd.R_of_own (h1 := fun _ => rfl) (Kd.own_of_R hR2) (fun k hk => hk.symm)
    exact ⟨_, rfl, ⟨A, c, .nilIface, by simpa using heap_alloc_new w' _, below_size hB2, Kd.R_below hR3 (below_alloc (Below.refl _ _) _), .inl ⟨rfl, rfl, rfl⟩, hG⟩, below_alloc hB2 _, below_alloc hB1 _⟩
  · rw [if_neg hl] at h; cases h

/-! ### num_Reader_ok: function 49 -/
theorem IsS71.open {w0 W : World} {g : Nat} {f0 : List Int} {f1 f2 f3 : Int} (h : IsS71 w0 W g f0 f1 f2 f3) :
    ∃ A0 c0 ev, W.heap[g]? = some (.cells #[.slice A0 f0.length c0, .int .i64 f1, ev] 71 (0, 0)) ∧ W.cell? ⟨g, 0, none⟩ = some (.slice A0 f0.length c0) ∧ W.cell? ⟨g, 1, none⟩ = some (.int .i64 f1) ∧ W.cell? ⟨g, 2, none⟩ = some ev ∧ (∀ j, W.frozen? ⟨g, j, none⟩ = false) ∧
      (Kd.int .u8).R 5 W w0.heap.size (fun k => some k = (Value.slice A0 f0.length c0).ownBlock) (.slice A0 f0.length c0) f0 ∧ FaultAt w0 W ev f2 f3 := by
  obtain ⟨A, c, ev, hb, hg, hr, hf, hG⟩ := h
  exact ⟨A, c, ev, hb, (blk_cell hb 0).trans rfl, (blk_cell hb 1).trans rfl, (blk_cell hb 2).trans rfl, fun j => by simp [World.frozen?, hb], hr, hf⟩
theorem FaultAt.eqNil {w0 W : World} {ev : Value} {e at_ : Int} (h : FaultAt w0 W ev e at_) (w : World) : (binOp BinOp.eql 69 ev .nilIface).run Tryd.prog w = .ok (.bool (decide (e = 0))) w := by
  rcases h with ⟨rfl, rfl, rfl⟩ | ⟨h0, F, rfl, _⟩
  · kernel_rfl
  · rw [decide_eq_false h0]; kernel_rfl
theorem FaultAt.guardNil {w0 W : World} {ev : Value} {e at_ : Int} (h : FaultAt w0 W ev e at_) (t : Nat) (w : World) : (eqGuard BinOp.eql 69 (Operand.tmp t) (Operand.const Value.nilIface) ev Value.nilIface).run Tryd.prog w = .ok () w := by
  rcases h with ⟨rfl, rfl, rfl⟩ | ⟨h0, F, rfl, _⟩
  · kernel_rfl
  · kernel_rfl
theorem num_Reader_ok.walk (g : Nat) (s0_0 : List Int) (s0_1 : Int) (s0_2 : Int) (s0_3 : Int) (w0 w : World) (hI : IsS71 w0 w g s0_0 s0_1 s0_2 s0_3) :
    Calls Tryd.prog 49 #[.pointer (some ⟨g, 0, none⟩)] w fun e w' => e = .returned (.bool (decide (s0_2 = 0))) ∧ w' = w := by
  obtain ⟨A, c, ev, hb, hc0, hc1, hc2, hfz, hr, hf⟩ := hI.open
  have hq := hf.eqNil
  have hq2 := hf.guardNil
  have e1 : ∀ w, (binOp BinOp.neq 26 (.pointer (some ⟨g, 0, none⟩)) (.pointer none)).run Tryd.prog w = .ok (.bool true) w := fun w => by kernel_rfl
  go_enter Tryd.func49, Tryd.ntmps49
  go_wp2
  go_ret
  exact ⟨rfl, rfl⟩
def num_Reader_ok.f (s0_0 : List Int) (s0_1 : Int) (s0_2 : Int) (s0_3 : Int) : Option (Bool × Int × Int × Int) := some (decide (s0_2 = 0), s0_1, s0_2, s0_3)
theorem num_Reader_ok.calls (g : Nat) (s0_0 : List Int) (s0_1 : Int) (s0_2 : Int) (s0_3 : Int) (r1 : Bool) (r2 r3 r4 : Int) (w0 w : World) (hI : IsS71 w0 w g s0_0 s0_1 s0_2 s0_3) (hB : Below w0.heap.size w0 w) (h : num_Reader_ok.f s0_0 s0_1 s0_2 s0_3 = some (r1, r2, r3, r4)) :
    Calls Tryd.prog 49 #[.pointer (some ⟨g, 0, none⟩)] w fun e w' => e = .returned (.bool r1) ∧ IsS71 w0 w' g s0_0 r2 r3 r4 ∧ Below w0.heap.size w0 w' ∧ KeepBut w w' g none := by
  simp only [num_Reader_ok.f, Option.some.injEq, Prod.mk.injEq] at h
  obtain ⟨rfl, rfl, rfl, rfl⟩ := h
  refine (num_Reader_ok.walk g s0_0 s0_1 s0_2 s0_3 w0 w hI).mono ?_
  rintro e w' ⟨rfl, rfl⟩
  exact ⟨rfl, hI, hB, KeepBut.refl _ _ _⟩

end Go.Proofs.YtjmhfbgpebgcmaaDoor.PForeGets
