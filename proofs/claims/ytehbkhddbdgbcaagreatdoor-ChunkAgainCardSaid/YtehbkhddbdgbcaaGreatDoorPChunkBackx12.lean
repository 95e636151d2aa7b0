/- WRITTEN BY A PROGRAM of this session (wip/tool: a turned copy of the printer), out of the translation: Lean functions with the answers of the Go functions, and the proofs that the Go code comes to them. -/
import Derived.Test.YtehbkhddbdgbcaaGreatDoorPChunkBackx1
import Derived.Test.YtehbkhddbdgbcaaGreatDoorPChunkBackx2
import Derived.Test.YtehbkhddbdgbcaaGreatDoorPChunkBackx6
import Derived.Test.YtehbkhddbdgbcaaGreatDoorPChunkBackx3
import Derived.Test.YtehbkhddbdgbcaaGreatDoorPChunkBackx4
import Derived.Test.YtehbkhddbdgbcaaGreatDoorPChunkBackx7
import Derived.Test.YtehbkhddbdgbcaaGreatDoorPChunkBackx8
namespace Go.Proofs.YtehbkhddbdgbcaaGreatDoor.PChunkBack
open Go.RowKit Go.Proofs.YtehbkhddbdgbcaaGreatDoorW.PrintWords Go.Proofs.YtehbkhddbdgbcaaGreatDoorW.PrintLast Go.Proofs.YtehbkhddbdgbcaaGreatDoorW.PrintMore
attribute [local go_sem] max2_int min2_int max_two min_two max_three min_three max_four min_four   -- for this text's walks alone
set_option linter.unusedVariables false
set_option linter.unusedSimpArgs false

/-! ### slices_Min_int64_int64: function 82 -/
def slices_Min_int64_int64.l0 : Nat → List Int → Int → Int → Option (Int)
 | 0, _, _, _ => none
 | k + 1, x0, x3, x4 => if x4 < (x0.length : Int) then (if 0 ≤ x4 then (slices_Min_int64_int64.l0 k x0 (mn x3 (rd x0 x4)) (wrap64 (x4 + 1))) else (none)) else (some x3)
def slices_Min_int64_int64.f (k : Nat) (l0 : List Int) : Option (Int) := if (l0.length : Int) < 1 then (none) else (if 0 < (l0.length : Int) then (slices_Min_int64_int64.l0 k l0 (rd l0 0) 1) else (none))
set_option maxHeartbeats 8000000 in
set_option maxRecDepth 100000 in
theorem slices_Min_int64_int64.calls (k : Nat) (A0 : Option Addr) (c0 : Nat) (l0 : List Int) (r : Int) (w : World) (hr0 : Kd.C (Kd.int .i64) w A0 l0.length l0) (hc0 : l0.length ≤ c0) (h : slices_Min_int64_int64.f k l0 = some r) :
  Calls Tryz.prog 82 #[.slice A0 l0.length c0] w fun e w' => e = .returned (.int .i64 r) ∧ Below w.heap.size w w' := by
 have HR0 := Aside0.mk hr0; have HC0 := Aside0.mk hc0; clear hr0 hc0; have HB := Aside0.mk (Below.refl w.heap.size w); have H : (if (l0.length : Int) < 1 then (none) else (if 0 < (l0.length : Int) then (slices_Min_int64_int64.l0 k l0 (rd l0 0) 1) else (none))) = some r := h; clear h
 by_cases c2 : (l0.length : Int) < 1
 ·rw [if_pos c2] at H; exact absurd H (by simp)
 ·rw [if_neg c2] at H; have c2b0 := decide_eq_false c2; have c2b1 : decide (l0.length < 1) = false := decide_eq_false (by omega); clear c2
  by_cases c3 : 0 < (l0.length : Int)
  ·rw [if_pos c3] at H; have c3b0 := decide_eq_true c3; have c3b1 : decide (0 < l0.length) = true := decide_eq_true (by omega); clear c3; have H' := Aside0.mk H; clear H
   have p425 : 0 ≤ (0 : Int) := (by omega)
   have q425 : 0 < (l0.length : Int) := OD; obtain ⟨ad425, e425, hx425_0⟩ := Kd.at_int HR0.out 0 p425 q425
   cases e425
   have qi425 : (0 < l0.length) = True := eq_true (by omega)
   (try rw [show ((0 : Int)).toNat = 0 from rfl] at hx425_0)
   (try rw [Addr.add_zero'] at hx425_0)
   replace p425 := eq_true p425; replace q425 := eq_true q425; go_enter Tryz.func82, Tryz.ntmps82; go_wp2
   go_loopg [3, 4] k (fun kq v3 v4 w' => ∃ (x3_1 : Int) (x4_1 : Int), v3 = .int .i64 x3_1 ∧ v4 = .int .i64 x4_1 ∧ Aside0 (slices_Min_int64_int64.l0 kq l0 x3_1 x4_1 = some r) ∧ Aside0 (kq ≤ k) ∧ Aside0 (Below w.heap.size w w'))
   case atStart => exact ⟨(rd l0 0), (1), EB, EB, H', ⟨Nat.le_refl _⟩, ⟨BU HB.out⟩⟩
   case round =>
    clear H'; (try clear c2); (try clear c2b0); (try clear c2b1); (try clear p2); (try clear c3); (try clear c3b0); (try clear c3b1); (try clear hx425_0); (try clear p425); (try clear q425); obtain ⟨x3_1, x4_1, rfl, rfl, HA, HK1, HB⟩ := hrel
    cases gk with
    | zero => exact absurd HA.out (by simp [slices_Min_int64_int64.l0])
    | succ k1 =>
     have H := HA.out; clear HA; simp only [slices_Min_int64_int64.l0] at H
     by_cases c4 : x4_1 < (l0.length : Int)
     ·rw [if_pos c4] at H; have c4b0 := decide_eq_true c4; clear c4
      by_cases c5 : 0 ≤ x4_1
      ·rw [if_pos c5] at H; have c5b0 := decide_eq_true c5; clear c5
       obtain ⟨ji6, hji6⟩ : ∃ j_ : Int, (mn x3_1 (rd l0 x4_1)) = j_ := ⟨_, rfl⟩
       replace H : (slices_Min_int64_int64.l0 k1 l0 ji6 (wrap64 (x4_1 + 1))) = some r := by first | (rw [hji6] at H; exact H) | (simp only [hji6] at H ⊢; exact H)
       have hji6_ : (if (rd l0 x4_1) < x3_1 then (rd l0 x4_1) else x3_1) = ji6 := hji6; have H' := Aside0.mk H; clear H; have p426 : 0 ≤ (x4_1 : Int) := OD; have q426 : x4_1 < (l0.length : Int) := OD; obtain ⟨ad426, e426, hx426_0⟩ := Kd.at_int HR0.out x4_1 p426 q426
       obtain rfl : ad425 = ad426 := (by injection e426)
       replace hx426_0 := (HB.out.cell (World.block_lt_of_cell? w _ hx426_0)).trans hx426_0; replace p426 := eq_true p426; replace q426 := eq_true q426; go_wp2; go_roundg k1
       case measure => have := HK1.out; omega
       case rel => exact ⟨(ji6), (wrap64 (x4_1 + 1)), (by first | rfl | (simp; done) | (simp only [← hji6] <;> (first | rfl | simp)) | (simp [*]; done)), EB, H', ⟨by have := HK1.out; omega⟩, ⟨BU HB.out⟩⟩
      ·rw [if_neg c5] at H; exact absurd H (by simp)
     ·rw [if_neg c4] at H; have c4b0 := decide_eq_false c4; clear c4; obtain rfl := Option.some.inj H; go_wp2
      go_ret
      exact ⟨ER, BU HB.out⟩
  ·rw [if_neg c3] at H; exact absurd H (by simp)

/-! ### fore_Put: function 51 -/
def fore_Put.l0 : Nat → Int → List Int → List Int → Int → Int → Option (List Int × Int)
 | 0, _, _, _, _, _ => none
 | k + 1, x4, x5, x21, x22, x23 => if x23 < x22 then (if 0 ≤ x23 then (if x23 < (x21.length : Int) then (if x5.length < 17592186044416 then (fore_Put.l0 k x4 (x5 ++ [IntKind.u64.wrap ((IntKind.u64.wrap (rd x21 x23)) - (IntKind.u64.wrap (x4)))]) x21 x22 (wrap64 (x23 + 1))) else (none)) else (none)) else (none)) else ((bits_Width.f k x5).bind fun t432 => ((bits_Pack.f k x5 t432).bind fun bt433 => ((num_Zig.f x4).bind fun t437 => ((num_PutVar.f k ([] : List Int) t437).bind fun t438 => (if t438.length < 140737488355328 then ((some (t438 ++ [(t432) % 256] : List Int)).bind fun y441 => (if y441.length + bt433.1.length < 140737488355328 then (some ((y441 ++ bt433.1), bt433.2)) else (none))) else (none))))))
def fore_Put.f (k : Nat) (l0 : List Int) : Option (List Int × Int) := if (l0.length : Int) > 65536 then (some (([] : List Int), 12)) else (if (l0.length : Int) = 0 then (some (([] : List Int), 0)) else ((slices_Min_int64_int64.f k l0).bind fun t427 => (fore_Put.l0 k t427 ([] : List Int) l0 (l0.length : Int) 0)))
set_option maxHeartbeats 8000000 in
set_option maxRecDepth 100000 in
theorem fore_Put.calls (k : Nat) (A0 : Option Addr) (c0 : Nat) (l0 : List Int) (r1 : List Int) (r2 : Int) (w : World) (hr0 : Kd.C (Kd.int .i64) w A0 l0.length l0) (hc0 : l0.length ≤ c0) (h : fore_Put.f k l0 = some (r1, r2)) :
  Calls Tryz.prog 51 #[.slice A0 l0.length c0] w fun e w' => ∃ v0_ : Value, e = .returned (.tuple #[v0_, .int .i64 r2]) ∧ Kd.R (Kd.int .u8) 5 w' w.heap.size (fun _ => True) v0_ r1 ∧ Below w.heap.size w w' := by
 have HR0 := Aside0.mk hr0; have HC0 := Aside0.mk hc0; clear hr0 hc0; have HB := Aside0.mk (Below.refl w.heap.size w); have H : (if (l0.length : Int) > 65536 then (some (([] : List Int), 12)) else (if (l0.length : Int) = 0 then (some (([] : List Int), 0)) else ((slices_Min_int64_int64.f k l0).bind fun t427 => (fore_Put.l0 k t427 ([] : List Int) l0 (l0.length : Int) 0)))) = some (r1, r2) := h; clear h
 by_cases c2 : (l0.length : Int) > 65536
 ·rw [if_pos c2] at H; have c2b0 : decide (65536 < (l0.length : Int)) = true := decide_eq_true c2; have c2b1 : decide (65536 < l0.length) = true := decide_eq_true (by omega); clear c2; simp only [Option.some.injEq, Prod.mk.injEq] at H; obtain ⟨rfl, rfl⟩ := H; go_enter Tryz.func51, Tryz.ntmps51; go_wp2
  go_ret2
  exact ⟨_, ER, by first | exact Kd.R_nil _ _ _ _ _ | exact Kd.N_nil _ _ _ _ _ | exact Kd.V_nil _ _ _ _ _ | exact Kd.Q_nil _ _ _ _ _ | exact Kd.S_nil _ _ _ _ _, BU HB.out⟩
 ·rw [if_neg c2] at H; have c2b0 : decide (65536 < (l0.length : Int)) = false := decide_eq_false c2; have c2b1 : decide (65536 < l0.length) = false := decide_eq_false (by omega); clear c2
  by_cases c3 : (l0.length : Int) = 0
  ·rw [if_pos c3] at H; have c3b0 : ((l0.length : Int) == 0) = true := beq_iff_eq.mpr c3; have c3b1 : ((l0.length : Int) != 0) = false := bne_eq_false_iff_eq.mpr c3; clear c3; simp only [Option.some.injEq, Prod.mk.injEq] at H; obtain ⟨rfl, rfl⟩ := H; go_enter Tryz.func51, Tryz.ntmps51; go_wp2
   go_ret2
   exact ⟨_, ER, by first | exact Kd.R_nil _ _ _ _ _ | exact Kd.N_nil _ _ _ _ _ | exact Kd.V_nil _ _ _ _ _ | exact Kd.Q_nil _ _ _ _ _ | exact Kd.S_nil _ _ _ _ _, BU HB.out⟩
  ·rw [if_neg c3] at H; have c3b0 : ((l0.length : Int) == 0) = false := beq_eq_false_iff_ne.mpr c3; have c3b1 : ((l0.length : Int) != 0) = true := bne_iff_ne.mpr c3
   have c3b2 : ¬ (l0 = []) := fun h_ => c3 (by rw [h_]; rfl)
   replace H := Option.bind_eq_some_iff.mp H; obtain ⟨t427, A40, H⟩ := H; (try dsimp only at H); have A4 := Aside0.mk A40; clear A40; have H' := Aside0.mk H; clear H; go_enter Tryz.func51, Tryz.ntmps51
   go_wp2_with (first | (go_at_call 82; (with_reducible refine (slices_Min_int64_int64.calls k _ _ l0 t427 _ ?side1 ?side2 A4.out).mono ?_); (case side1 => exact CU HR0.out); (case side2 => exact HC0.out); rintro e w5 ⟨rfl, hb⟩; replace HB := Aside0.mk (below_step (BU HB.out) hb); clear hb))
   go_loopg [5, 23] k (fun kq v5 v23 w' => ∃ (x5_1 : List Int) (x23_1 : Int), v23 = .int .i64 x23_1 ∧ Aside0 (fore_Put.l0 kq t427 x5_1 l0 (l0.length : Int) x23_1 = some (r1, r2)) ∧ Aside0 (kq ≤ k) ∧ Aside0 (Kd.R (Kd.int .u64) 75 w' w.heap.size (fun _ => True) v5 x5_1) ∧ Aside0 (Below w.heap.size w w'))
   case atStart => exact ⟨(([] : List Int)), (0), EB, H', ⟨Nat.le_refl _⟩, ⟨by first | exact Kd.R_nil _ _ _ _ _ | exact Kd.N_nil _ _ _ _ _ | exact Kd.V_nil _ _ _ _ _ | exact Kd.Q_nil _ _ _ _ _ | exact Kd.S_nil _ _ _ _ _⟩, ⟨BU HB.out⟩⟩
   case round =>
    clear H'; (try clear c2); (try clear c2b0); (try clear c2b1); (try clear p2); (try clear c3); (try clear c3b0); (try clear c3b1); (try clear c3b2); (try clear c5); obtain ⟨x5_1, x23_1, rfl, HA, HK1, HO_5, HB⟩ := hrel
    cases gk with
    | zero => exact absurd HA.out (by simp [fore_Put.l0])
    | succ k1 =>
     have H := HA.out; clear HA; simp only [fore_Put.l0] at H
     by_cases c6 : x23_1 < (l0.length : Int)
     ·rw [if_pos c6] at H; have c6b0 := decide_eq_true c6; clear c6
      by_cases c7 : 0 ≤ x23_1
      ·rw [if_pos c7] at H; have c7b0 := decide_eq_true c7; clear c7
       by_cases c8 : x23_1 < (l0.length : Int)
       ·rw [if_pos c8] at H; have c8b0 := decide_eq_true c8; clear c8
        by_cases c9 : x5_1.length < 17592186044416
        ·rw [if_pos c9] at H; have LMc9 := Aside0.mk c9; clear c9
         obtain ⟨y429, hy429⟩ : ∃ y_ : List Int, y_ = (x5_1 ++ [IntKind.u64.wrap ((IntKind.u64.wrap (rd l0 x23_1)) - (IntKind.u64.wrap (t427)))]) := ⟨_, rfl⟩
         replace H : (fore_Put.l0 k1 t427 y429 l0 (l0.length : Int) (wrap64 (x23_1 + 1))) = some (r1, r2) := HY hy429 H; have Ny429 := Aside0.mk hy429; clear hy429; have H' := Aside0.mk H; clear H; have p428 : 0 ≤ (x23_1 : Int) := OD; have q428 : x23_1 < (l0.length : Int) := OD; obtain ⟨ad428, e428, hx428_0⟩ := Kd.at_int HR0.out x23_1 p428 q428
         cases e428
         replace hx428_0 := (HB.out.cell (World.block_lt_of_cell? w _ hx428_0)).trans hx428_0; replace p428 := eq_true p428; replace q428 := eq_true q428
         go_wp2_with (first | ((with_reducible refine gate_builtin (b := .append) (xs := #[.tmp 27, .tmp 33]) rfl ?_); at_builtin; refine Kd.R_append (Kd.int .u64) (w0 := w) w.heap.size rfl (.tmp 27) (.tmp 33) 83 75 (.int .u64 0) 8 rfl Tryz.underlying83 info75 rfl (by decide) (by omega) u5 x5_1 (IntKind.u64.wrap ((IntKind.u64.wrap (rd l0 x23_1)) - (IntKind.u64.wrap (t427)))) [.int .u64 (IntKind.u64.wrap ((IntKind.u64.wrap (rd l0 x23_1)) - (IntKind.u64.wrap (t427))))] (fun _ => True) (fun _ => False) rfl rfl ?aP (fun _ hk => hk.elim) ?aF ?aO ?aB ?aS ?aL ?_; (case aP => exact rfl); (case aB => exact (BU HB.out)); (case aF => exact (fun _ _ => trivial)); (case aO => exact (RU HO_5.out)); (case aS => exact (below_size (BU HB.out))); (case aL => have := LMc9.out; omega); intro v430 w10 ho hb hg hat; rw [← Ny429.out] at ho; replace HB := Aside0.mk hb; have HO431 := Aside0.mk ho; clear HO_5; clear ho hb hg hat))
         go_roundg k1
         case measure => have := HK1.out; omega
         case rel => exact ⟨(y429), (wrap64 (x23_1 + 1)), EB, H', ⟨by have := HK1.out; omega⟩, ⟨RU HO431.out⟩, ⟨BU HB.out⟩⟩
        ·rw [if_neg c9] at H; exact absurd H (by simp)
       ·rw [if_neg c8] at H; exact absurd H (by simp)
      ·rw [if_neg c7] at H; exact absurd H (by simp)
     ·rw [if_neg c6] at H; have c6b0 := decide_eq_false c6; clear c6; replace H := Option.bind_eq_some_iff.mp H; obtain ⟨t432, A110, H⟩ := H; (try dsimp only at H); have A11 := Aside0.mk A110; clear A110; replace H := Option.bind_eq_some_iff.mp H; obtain ⟨⟨t433, t434⟩, A120, H⟩ := H; (try dsimp only at H); have A12 := Aside0.mk A120; clear A120; replace H := Option.bind_eq_some_iff.mp H; obtain ⟨t437, A130, H⟩ := H; (try dsimp only at H); have A13 := Aside0.mk A130; clear A130; replace H := Option.bind_eq_some_iff.mp H; obtain ⟨t438, A140, H⟩ := H; (try dsimp only at H); have A14 := Aside0.mk A140; clear A140
      by_cases c15 : t438.length < 140737488355328
      ·rw [if_pos c15] at H; have LMc15 := Aside0.mk c15; clear c15
       obtain ⟨y441, hy441⟩ : ∃ y_ : List Int, y_ = (t438 ++ [(t432) % 256]) := ⟨_, rfl⟩
       replace H : (if y441.length + t433.length < 140737488355328 then (some ((y441 ++ t433), t434)) else (none)) = some (r1, r2) := HY hy441 H; have Ny441 := Aside0.mk hy441; clear hy441
       by_cases c16 : y441.length + t433.length < 140737488355328
       ·rw [if_pos c16] at H; have LMc16 := Aside0.mk c16; clear c16
        obtain ⟨y444, hy444⟩ : ∃ y_ : List Int, y_ = (y441 ++ t433) := ⟨_, rfl⟩
        replace H : (some (y444, t434)) = some (r1, r2) := HY hy444 H; have Ny444 := Aside0.mk hy444; clear hy444; simp only [Option.some.injEq, Prod.mk.injEq] at H; obtain ⟨rfl, rfl⟩ := H; obtain ⟨Ao17, co17, eo17⟩ := Kd.R_slice HO_5.out; subst eo17
        go_wp2_with (first | (go_at_call 76; (with_reducible refine (bits_Width.calls k1 _ _ x5_1 t432 _ ?side1 ?side2 A11.out).mono ?_); (case side1 => exact CU ((Kd.R_reads' HO_5.out).2.2)); (case side2 => exact (Kd.R_reads' HO_5.out).2.1); rintro e w' ⟨rfl, ⟨nd, rfl⟩⟩) | (go_at_call 62; (with_reducible refine (bits_Pack.calls k1 _ _ x5_1 t432 t433 t434 _ ?side1 ?side2 A12.out).mono ?_); (case side1 => exact CU ((Kd.R_reads' HO_5.out).2.2)); (case side2 => exact (Kd.R_reads' HO_5.out).2.1); rintro e w18 ⟨v435, rfl, ho0, hb⟩; replace HO_5 := Aside0.mk (Kd.R_below (RU HO_5.out) hb); have HO436 := Aside0.mk (Kd.R_lower ho0 (below_size (BU HB.out))); replace HB := Aside0.mk (below_step (BU HB.out) hb); clear hb ho0) | (go_at_call 70; (with_reducible refine (num_Zig.calls t427 t437 _ A13.out).mono ?_); rintro e w' ⟨rfl, ⟨nd, rfl⟩⟩) | (go_at_call 59; (refine (num_PutVar.calls k1 (fun k_ => some k_ = (.slice none 0 0 : Value).ownBlock) (.slice none 0 0) ([] : List Int) t437 t438 w _ ?side1 ?side2 A14.out).mono ?_); (case side1 => exact BU HB.out); (case side2 => exact Kd.R_nil _ _ _ _ _); rintro e w19 ⟨v439, rfl, ho0, hb, hkp⟩; replace HO_5 := Aside0.mk (Kd.R_mono (ok' := fun k_ => True) (Kd.R_keptB (HO_5.out) hkp (fun k_ hk_ hs_ => (fun e_ => by simp [Value.ownBlock] at e_) hs_)) (fun k_ hk_ => trivial)); have HO440 := Aside0.mk (Kd.R_mono (ok' := fun k_ => some k_ ≠ (v435 : Value).ownBlock) ho0 (fun k_ hk_ => Or.elim hk_ (fun hs_ => absurd hs_ (by simp [Value.ownBlock])) (fun hn_ => (Kd.fresh' (Kd.R_lt (RU HO436.out)) k_ hn_)))); replace HO436 := Aside0.mk (Kd.R_mono (ok' := fun k_ => some k_ ≠ (v439 : Value).ownBlock) (Kd.R_keptB (HO436.out) hkp (fun k_ hk_ hs_ => (fun e_ => by simp [Value.ownBlock] at e_) hs_)) (fun k_ hk_ => fun e_ => Or.elim (ho0.1 k_ e_.symm) (fun hs_ => hk_.2.1 hs_) (fun hn_ => Nat.not_le.2 hk_.2.2 hn_))); replace HB := Aside0.mk hb; (try clear hb); (try clear hkp); (try clear ho0)) | ((with_reducible refine gate_builtin (b := .append) (xs := #[.tmp 46, .tmp 49]) rfl ?_); at_builtin; refine Kd.R_append (Kd.int .u8) (w0 := w) w.heap.size rfl (.tmp 46) (.tmp 49) 25 5 (.int .u8 0) 1 rfl Tryz.underlying25 info5 rfl (by decide) (by omega) v439 t438 ((t432) % 256) [.int .u8 ((t432) % 256)] (fun k_ => some k_ ≠ (v435 : Value).ownBlock) (fun _ => False) rfl rfl ?aP (fun _ hk => hk.elim) ?aF ?aO ?aB ?aS ?aL ?_; (case aP => exact rfl); (case aB => exact (BU HB.out)); (case aF => exact (fun k_ hk => Kd.fresh' (Kd.R_lt (RU HO436.out)) k_ hk)); (case aO => exact (RU HO440.out)); (case aS => exact (below_size (BU HB.out))); (case aL => have := LMc15.out; omega); intro v442 w20 ho hb hg hat; rw [← Ny441.out] at ho; replace HO_5 := Aside0.mk (Kd.R_over' (RU HO_5.out) (Kd.R_typed (RU HO440.out)) (by decide) hg); replace HO436 := Aside0.mk (Kd.R_after (ok := (fun _ => True)) (RU (Kd.R_mono HO436.out (fun _ hk => ⟨trivial, hk⟩))) hg hat); replace HB := Aside0.mk hb; have HO443 := Aside0.mk ho; clear HO440; clear ho hb hg hat; obtain ⟨Ao22, co22, eo22⟩ := Kd.R_slice HO436.out; subst eo22) | ((with_reducible refine gate_builtin (b := .append) (xs := #[.tmp 50, .tmp 51]) rfl ?_); at_builtin; refine Kd.R_append_rows (Kd.int .u8) (w0 := w) w.heap.size rfl (.tmp 50) (.tmp 51) 25 5 (.int .u8 0) 1 rfl Tryz.underlying25 info5 rfl (by decide) (by omega) v442 y441 t433 _ _ _ (fun k_ => some k_ ≠ (.slice Ao22 t433.length co22 : Value).ownBlock) (fun _ => False) rfl rfl ?aO ?aR (fun _ _ h => h) (fun _ h => h.elim) ?aF ?aB ?aS ?aL ?_; (case aR => exact CU ((Kd.R_reads' HO436.out).2.2)); (case aB => exact (BU HB.out)); (case aF => exact (fun k_ hk => Kd.fresh' (Kd.R_lt (RU HO436.out)) k_ hk)); (case aO => exact (RU HO443.out)); (case aS => exact (below_size (BU HB.out))); (case aL => have := LMc16.out; omega); intro v445 w21 ho hb hg hat; rw [← Ny444.out] at ho; replace HO_5 := Aside0.mk (Kd.R_over' (RU HO_5.out) (Kd.R_typed (RU HO443.out)) (by decide) hg); replace HO436 := Aside0.mk (Kd.R_after (ok := (fun _ => True)) (RU HO436.out) hg hat); replace HB := Aside0.mk hb; have HO446 := Aside0.mk ho; clear HO443; clear ho hb hg hat))
        go_ret2
        exact ⟨_, ER, RU (Kd.R_mono HO446.out (fun _ hk => trivial)), BU HB.out⟩
       ·rw [if_neg c16] at H; exact absurd H (by simp)
      ·rw [if_neg c15] at H; exact absurd H (by simp)

/-! ### slices_Min_uint64_uint64: function 83 -/
def slices_Min_uint64_uint64.l0 : Nat → List Int → Int → Int → Option (Int)
 | 0, _, _, _ => none
 | k + 1, x0, x3, x4 => if x4 < (x0.length : Int) then (if 0 ≤ x4 then (slices_Min_uint64_uint64.l0 k x0 (mn x3 (rd x0 x4)) (wrap64 (x4 + 1))) else (none)) else (some x3)
def slices_Min_uint64_uint64.f (k : Nat) (l0 : List Int) : Option (Int) := if (l0.length : Int) < 1 then (none) else (if 0 < (l0.length : Int) then (slices_Min_uint64_uint64.l0 k l0 (rd l0 0) 1) else (none))
set_option maxHeartbeats 8000000 in
set_option maxRecDepth 100000 in
theorem slices_Min_uint64_uint64.calls (k : Nat) (A0 : Option Addr) (c0 : Nat) (l0 : List Int) (r : Int) (w : World) (hr0 : Kd.C (Kd.int .u64) w A0 l0.length l0) (hc0 : l0.length ≤ c0) (h : slices_Min_uint64_uint64.f k l0 = some r) :
  Calls Tryz.prog 83 #[.slice A0 l0.length c0] w fun e w' => e = .returned (.int .u64 r) ∧ Below w.heap.size w w' := by
 have HR0 := Aside0.mk hr0; have HC0 := Aside0.mk hc0; clear hr0 hc0; have HB := Aside0.mk (Below.refl w.heap.size w); have H : (if (l0.length : Int) < 1 then (none) else (if 0 < (l0.length : Int) then (slices_Min_uint64_uint64.l0 k l0 (rd l0 0) 1) else (none))) = some r := h; clear h
 by_cases c2 : (l0.length : Int) < 1
 ·rw [if_pos c2] at H; exact absurd H (by simp)
 ·rw [if_neg c2] at H; have c2b0 := decide_eq_false c2; have c2b1 : decide (l0.length < 1) = false := decide_eq_false (by omega); clear c2
  by_cases c3 : 0 < (l0.length : Int)
  ·rw [if_pos c3] at H; have c3b0 := decide_eq_true c3; have c3b1 : decide (0 < l0.length) = true := decide_eq_true (by omega); clear c3; have H' := Aside0.mk H; clear H
   have p447 : 0 ≤ (0 : Int) := (by omega)
   have q447 : 0 < (l0.length : Int) := OD; obtain ⟨ad447, e447, hx447_0⟩ := Kd.at_int HR0.out 0 p447 q447
   cases e447
   have qi447 : (0 < l0.length) = True := eq_true (by omega)
   (try rw [show ((0 : Int)).toNat = 0 from rfl] at hx447_0)
   (try rw [Addr.add_zero'] at hx447_0)
   replace p447 := eq_true p447; replace q447 := eq_true q447; go_enter Tryz.func83, Tryz.ntmps83; go_wp2
   go_loopg [3, 4] k (fun kq v3 v4 w' => ∃ (x3_1 : Int) (x4_1 : Int), v3 = .int .u64 x3_1 ∧ v4 = .int .i64 x4_1 ∧ Aside0 (slices_Min_uint64_uint64.l0 kq l0 x3_1 x4_1 = some r) ∧ Aside0 (kq ≤ k) ∧ Aside0 (Below w.heap.size w w'))
   case atStart => exact ⟨(rd l0 0), (1), EB, EB, H', ⟨Nat.le_refl _⟩, ⟨BU HB.out⟩⟩
   case round =>
    clear H'; (try clear c2); (try clear c2b0); (try clear c2b1); (try clear p2); (try clear c3); (try clear c3b0); (try clear c3b1); (try clear hx447_0); (try clear p447); (try clear q447); obtain ⟨x3_1, x4_1, rfl, rfl, HA, HK1, HB⟩ := hrel
    cases gk with
    | zero => exact absurd HA.out (by simp [slices_Min_uint64_uint64.l0])
    | succ k1 =>
     have H := HA.out; clear HA; simp only [slices_Min_uint64_uint64.l0] at H
     by_cases c4 : x4_1 < (l0.length : Int)
     ·rw [if_pos c4] at H; have c4b0 := decide_eq_true c4; clear c4
      by_cases c5 : 0 ≤ x4_1
      ·rw [if_pos c5] at H; have c5b0 := decide_eq_true c5; clear c5
       obtain ⟨ji6, hji6⟩ : ∃ j_ : Int, (mn x3_1 (rd l0 x4_1)) = j_ := ⟨_, rfl⟩
       replace H : (slices_Min_uint64_uint64.l0 k1 l0 ji6 (wrap64 (x4_1 + 1))) = some r := by first | (rw [hji6] at H; exact H) | (simp only [hji6] at H ⊢; exact H)
       have hji6_ : (if (rd l0 x4_1) < x3_1 then (rd l0 x4_1) else x3_1) = ji6 := hji6; have H' := Aside0.mk H; clear H; have p448 : 0 ≤ (x4_1 : Int) := OD; have q448 : x4_1 < (l0.length : Int) := OD; obtain ⟨ad448, e448, hx448_0⟩ := Kd.at_int HR0.out x4_1 p448 q448
       obtain rfl : ad447 = ad448 := (by injection e448)
       replace hx448_0 := (HB.out.cell (World.block_lt_of_cell? w _ hx448_0)).trans hx448_0; replace p448 := eq_true p448; replace q448 := eq_true q448; go_wp2; go_roundg k1
       case measure => have := HK1.out; omega
       case rel => exact ⟨(ji6), (wrap64 (x4_1 + 1)), (by first | rfl | (simp; done) | (simp only [← hji6] <;> (first | rfl | simp)) | (simp [*]; done)), EB, H', ⟨by have := HK1.out; omega⟩, ⟨BU HB.out⟩⟩
      ·rw [if_neg c5] at H; exact absurd H (by simp)
     ·rw [if_neg c4] at H; have c4b0 := decide_eq_false c4; clear c4; obtain rfl := Option.some.inj H; go_wp2
      go_ret
      exact ⟨ER, BU HB.out⟩
  ·rw [if_neg c3] at H; exact absurd H (by simp)

/-! ### slices_Max_uint64_uint64: function 84 -/
def slices_Max_uint64_uint64.l0 : Nat → List Int → Int → Int → Option (Int)
 | 0, _, _, _ => none
 | k + 1, x0, x3, x4 => if x4 < (x0.length : Int) then (if 0 ≤ x4 then (slices_Max_uint64_uint64.l0 k x0 (mx x3 (rd x0 x4)) (wrap64 (x4 + 1))) else (none)) else (some x3)
def slices_Max_uint64_uint64.f (k : Nat) (l0 : List Int) : Option (Int) := if (l0.length : Int) < 1 then (none) else (if 0 < (l0.length : Int) then (slices_Max_uint64_uint64.l0 k l0 (rd l0 0) 1) else (none))
set_option maxHeartbeats 8000000 in
set_option maxRecDepth 100000 in
theorem slices_Max_uint64_uint64.calls (k : Nat) (A0 : Option Addr) (c0 : Nat) (l0 : List Int) (r : Int) (w : World) (hr0 : Kd.C (Kd.int .u64) w A0 l0.length l0) (hc0 : l0.length ≤ c0) (h : slices_Max_uint64_uint64.f k l0 = some r) :
  Calls Tryz.prog 84 #[.slice A0 l0.length c0] w fun e w' => e = .returned (.int .u64 r) ∧ Below w.heap.size w w' := by
 have HR0 := Aside0.mk hr0; have HC0 := Aside0.mk hc0; clear hr0 hc0; have HB := Aside0.mk (Below.refl w.heap.size w); have H : (if (l0.length : Int) < 1 then (none) else (if 0 < (l0.length : Int) then (slices_Max_uint64_uint64.l0 k l0 (rd l0 0) 1) else (none))) = some r := h; clear h
 by_cases c2 : (l0.length : Int) < 1
 ·rw [if_pos c2] at H; exact absurd H (by simp)
 ·rw [if_neg c2] at H; have c2b0 := decide_eq_false c2; have c2b1 : decide (l0.length < 1) = false := decide_eq_false (by omega); clear c2
  by_cases c3 : 0 < (l0.length : Int)
  ·rw [if_pos c3] at H; have c3b0 := decide_eq_true c3; have c3b1 : decide (0 < l0.length) = true := decide_eq_true (by omega); clear c3; have H' := Aside0.mk H; clear H
   have p449 : 0 ≤ (0 : Int) := (by omega)
   have q449 : 0 < (l0.length : Int) := OD; obtain ⟨ad449, e449, hx449_0⟩ := Kd.at_int HR0.out 0 p449 q449
   cases e449
   have qi449 : (0 < l0.length) = True := eq_true (by omega)
   (try rw [show ((0 : Int)).toNat = 0 from rfl] at hx449_0)
   (try rw [Addr.add_zero'] at hx449_0)
   replace p449 := eq_true p449; replace q449 := eq_true q449; go_enter Tryz.func84, Tryz.ntmps84; go_wp2
   go_loopg [3, 4] k (fun kq v3 v4 w' => ∃ (x3_1 : Int) (x4_1 : Int), v3 = .int .u64 x3_1 ∧ v4 = .int .i64 x4_1 ∧ Aside0 (slices_Max_uint64_uint64.l0 kq l0 x3_1 x4_1 = some r) ∧ Aside0 (kq ≤ k) ∧ Aside0 (Below w.heap.size w w'))
   case atStart => exact ⟨(rd l0 0), (1), EB, EB, H', ⟨Nat.le_refl _⟩, ⟨BU HB.out⟩⟩
   case round =>
    clear H'; (try clear c2); (try clear c2b0); (try clear c2b1); (try clear p2); (try clear c3); (try clear c3b0); (try clear c3b1); (try clear hx449_0); (try clear p449); (try clear q449); obtain ⟨x3_1, x4_1, rfl, rfl, HA, HK1, HB⟩ := hrel
    cases gk with
    | zero => exact absurd HA.out (by simp [slices_Max_uint64_uint64.l0])
    | succ k1 =>
     have H := HA.out; clear HA; simp only [slices_Max_uint64_uint64.l0] at H
     by_cases c4 : x4_1 < (l0.length : Int)
     ·rw [if_pos c4] at H; have c4b0 := decide_eq_true c4; clear c4
      by_cases c5 : 0 ≤ x4_1
      ·rw [if_pos c5] at H; have c5b0 := decide_eq_true c5; clear c5
       obtain ⟨ji6, hji6⟩ : ∃ j_ : Int, (mx x3_1 (rd l0 x4_1)) = j_ := ⟨_, rfl⟩
       replace H : (slices_Max_uint64_uint64.l0 k1 l0 ji6 (wrap64 (x4_1 + 1))) = some r := by first | (rw [hji6] at H; exact H) | (simp only [hji6] at H ⊢; exact H)
       have hji6_ : (if x3_1 < (rd l0 x4_1) then (rd l0 x4_1) else x3_1) = ji6 := hji6; have H' := Aside0.mk H; clear H; have p450 : 0 ≤ (x4_1 : Int) := OD; have q450 : x4_1 < (l0.length : Int) := OD; obtain ⟨ad450, e450, hx450_0⟩ := Kd.at_int HR0.out x4_1 p450 q450
       obtain rfl : ad449 = ad450 := (by injection e450)
       replace hx450_0 := (HB.out.cell (World.block_lt_of_cell? w _ hx450_0)).trans hx450_0; replace p450 := eq_true p450; replace q450 := eq_true q450; go_wp2; go_roundg k1
       case measure => have := HK1.out; omega
       case rel => exact ⟨(ji6), (wrap64 (x4_1 + 1)), (by first | rfl | (simp; done) | (simp only [← hji6] <;> (first | rfl | simp)) | (simp [*]; done)), EB, H', ⟨by have := HK1.out; omega⟩, ⟨BU HB.out⟩⟩
      ·rw [if_neg c5] at H; exact absurd H (by simp)
     ·rw [if_neg c4] at H; have c4b0 := decide_eq_false c4; clear c4; obtain rfl := Option.some.inj H; go_wp2
      go_ret
      exact ⟨ER, BU HB.out⟩
  ·rw [if_neg c3] at H; exact absurd H (by simp)

end Go.Proofs.YtehbkhddbdgbcaaGreatDoor.PChunkBack
namespace Go.Proofs.YtehbkhddbdgbcaaGreatDoor.PChunkBack
open Go.RowKit Go.Proofs.YtehbkhddbdgbcaaGreatDoorW.PrintWords Go.Proofs.YtehbkhddbdgbcaaGreatDoorW.PrintLast Go.Proofs.YtehbkhddbdgbcaaGreatDoorW.PrintMore
attribute [local go_sem] max2_int min2_int max_two min_two max_three min_three max_four min_four   -- for this text's walks alone
set_option linter.unusedVariables false
set_option linter.unusedSimpArgs false

/-! ### fore_Get: function 52 -/
mutual
def fore_Get.j0 : Nat → List Int → Int → Bool → Option (List Int × Int)
 | 0, _, _, _ => none
 | k + 1, x0, x1, x17 => if x17 = true then (some (([] : List Int), 1)) else (if x1 = 0 then (fore_Get.j1 k x0 x1 (decide ((x0.length : Int) > 0))) else (fore_Get.j1 k x0 x1 false))
def fore_Get.j1 : Nat → List Int → Int → Bool → Option (List Int × Int)
 | 0, _, _, _ => none
 | k + 1, x0, x1, x24 => if x24 = true then (some (([] : List Int), 3)) else (if x1 = 0 then (some (([] : List Int), 0)) else ((num_NewReader.f x0).bind fun bt451 => ((num_Reader_Var.f k bt451.1 bt451.2.1 bt451.2.2.1 bt451.2.2.2).bind fun bt456 => ((num_Zag.f bt456.1).bind fun t460 => ((num_Reader_Fix.f k bt451.1 bt456.2.1 bt456.2.2.1 bt456.2.2.2 1).bind fun bt461 => (if (wrap64 (bt461.1)) > 64 then ((num_Reader_Fail.f bt451.1 bt461.2.1 bt461.2.2.1 bt461.2.2.2 5).bind fun bt465 => (fore_Get.j2 k x1 t460 (wrap64 (bt461.1)) bt451.1 bt465.1 bt465.2.1 bt465.2.2)) else (fore_Get.j2 k x1 t460 (wrap64 (bt461.1)) bt451.1 bt461.2.1 bt461.2.2.1 bt461.2.2.2)))))))
def fore_Get.j2 : Nat → Int → Int → Int → List Int → Int → Int → Int → Option (List Int × Int)
 | 0, _, _, _, _, _, _, _ => none
 | k + 1, x1, x7, x8, x456000, x456001, x456002, x456003 => (num_Reader_Err.f x456000 x456001 x456002 x456003).bind fun bt468 => (if bt468.1 = 0 then ((num_Reader_Left.f x456000 bt468.2.2.1 bt468.2.2.2.1 bt468.2.2.2.2).bind fun bt473 => ((num_Reader_Take.f x456000 bt473.2.1 bt473.2.2.1 bt473.2.2.2 bt473.1).bind fun bt477 => ((bits_Unpack.f k bt477.1 x1 x8).bind fun bt483 => (if bt483.2 = 0 then ((bits_Width.f k bt483.1).bind fun t487 => (if t487 = x8 then ((slices_Min_uint64_uint64.f k bt483.1).bind fun t488 => (if t488 = 0 then ((slices_Max_uint64_uint64.f k bt483.1).bind fun t489 => (fore_Get.j3 k x7 bt483.1 (decide (t489 > (IntKind.u64.wrap (9223372036854775807 - (IntKind.u64.wrap (x7)))))))) else (fore_Get.j3 k x7 bt483.1 true))) else (fore_Get.j3 k x7 bt483.1 true))) else (some (([] : List Int), bt483.2)))))) else (some (([] : List Int), bt468.1)))
def fore_Get.j3 : Nat → Int → List Int → Bool → Option (List Int × Int)
 | 0, _, _, _ => none
 | k + 1, x7, x11, x85 => if x85 = true then (some (([] : List Int), 4)) else (fore_Get.l0 k x7 ([] : List Int) x11 (x11.length : Int) 0)
def fore_Get.l0 : Nat → Int → List Int → List Int → Int → Int → Option (List Int × Int)
 | 0, _, _, _, _, _ => none
 | k + 1, x7, x14, x86, x87, x88 => if x88 < x87 then (if 0 ≤ x88 then (if x88 < (x86.length : Int) then (if x14.length < 17592186044416 then (fore_Get.l0 k x7 (x14 ++ [wrap64 (IntKind.u64.wrap ((IntKind.u64.wrap (x7)) + (rd x86 x88)))]) x86 x87 (wrap64 (x88 + 1))) else (none)) else (none)) else (none)) else (some (x14, 0))
end
def fore_Get.f (k : Nat) (l0 : List Int) (a1 : Int) : Option (List Int × Int) := if a1 < 0 then (fore_Get.j0 k l0 a1 true) else (fore_Get.j0 k l0 a1 (decide (a1 > 65536)))
set_option maxHeartbeats 8000000 in
set_option maxRecDepth 100000 in
theorem fore_Get.calls (k : Nat) (A0 : Option Addr) (c0 : Nat) (l0 : List Int) (a1 : Int) (r1 : List Int) (r2 : Int) (w : World) (hr0 : Kd.C (Kd.int .u8) w A0 l0.length l0) (hc0 : l0.length ≤ c0) (hG : HG w) (h : fore_Get.f k l0 a1 = some (r1, r2)) :
  Calls Tryz.prog 52 #[.slice A0 l0.length c0, .int .i64 a1] w fun e w' => ∃ v0_ : Value, e = .returned (.tuple #[v0_, .int .i64 r2]) ∧ Kd.R (Kd.int .i64) 2 w' w.heap.size (fun _ => True) v0_ r1 ∧ Below w.heap.size w w' := by
 have HR0 := Aside0.mk hr0; have HC0 := Aside0.mk hc0; clear hr0 hc0; have HB := Aside0.mk (Below.refl w.heap.size w); have H : (if a1 < 0 then (fore_Get.j0 k l0 a1 true) else (fore_Get.j0 k l0 a1 (decide (a1 > 65536)))) = some (r1, r2) := h; clear h; have HC3 := Aside0.mk H; clear H; go_enter Tryz.func52, Tryz.ntmps52
 go_upto_region 1 with (fail)
 go_cut [17] (fun v17 wc => ∃ (kq : Nat) (x17_2 : Bool), v17 = .bool x17_2 ∧ Aside0 (fore_Get.j0 kq l0 a1 x17_2 = some (r1, r2)) ∧ Aside0 (kq ≤ k) ∧ Aside0 (Below w.heap.size w wc))
 case first =>
  have H := HC3.out; clear HC3
  by_cases c4 : a1 < 0
  ·rw [if_pos c4] at H; have c4b0 := decide_eq_true c4; clear c4
   (first | rw [c4b0] | (simp only [i64_w, i32_w]; rw [c4b0]) | skip)
   have H' := Aside0.mk H; clear H; go_wp2; go_meet
   case rel => exact ⟨_, (true), EB, H', ⟨by first | omega | exact Nat.le_refl _⟩, ⟨BU HB.out⟩⟩
  ·rw [if_neg c4] at H; have c4b0 := decide_eq_false c4; clear c4
   (first | rw [c4b0] | (simp only [i64_w, i32_w]; rw [c4b0]) | skip)
   have H' := Aside0.mk H; clear H; go_wp2; go_meet
   case rel => exact ⟨_, (decide (a1 > 65536)), EB, H', ⟨by first | omega | exact Nat.le_refl _⟩, ⟨BU HB.out⟩⟩
 case rest =>
  clear HC3; (try clear p2); (try clear c4); (try clear c4b0); obtain ⟨kq, x17_2, rfl, HA, HJ2, HB⟩ := hcut
  cases kq with
  | zero => exact absurd HA.out (by simp [fore_Get.j0])
  | succ kj2 =>
   have H := HA.out; clear HA; simp only [fore_Get.j0] at H
   by_cases c5 : x17_2 = true
   ·subst c5
    have H1 : (some (([] : List Int), 1)) = some (r1, r2) := by rw [if_pos rfl] at H; exact H
    clear H; have H := H1; clear H1; simp only [Option.some.injEq, Prod.mk.injEq] at H; obtain ⟨rfl, rfl⟩ := H; go_wp2
    go_ret2
    exact ⟨_, ER, by first | exact Kd.R_nil _ _ _ _ _ | exact Kd.N_nil _ _ _ _ _ | exact Kd.V_nil _ _ _ _ _ | exact Kd.Q_nil _ _ _ _ _ | exact Kd.S_nil _ _ _ _ _, BU HB.out⟩
   ·replace c5 := Bool.eq_false_iff.mpr c5; subst c5
    have H1 : (if a1 = 0 then (fore_Get.j1 kj2 l0 a1 (decide ((l0.length : Int) > 0))) else (fore_Get.j1 kj2 l0 a1 false)) = some (r1, r2) := by rw [if_neg (show ¬ (false = true) by decide)] at H; exact H
    clear H; have H := H1; clear H1; have HC6 := Aside0.mk H; clear H
    go_upto_region 3 with (fail)
    go_cut [24] (fun v24 wc => ∃ (kq : Nat) (x24_5 : Bool), v24 = .bool x24_5 ∧ Aside0 (fore_Get.j1 kq l0 a1 x24_5 = some (r1, r2)) ∧ Aside0 (kq ≤ kj2) ∧ Aside0 (Below w.heap.size w wc))
    case first =>
     have H := HC6.out; clear HC6
     by_cases c7 : a1 = 0
     ·rw [if_pos c7] at H; have c7b0 : (a1 == 0) = true := beq_iff_eq.mpr c7; have c7b1 : (a1 != 0) = false := bne_eq_false_iff_eq.mpr c7; clear c7
      (first | rw [c7b0] | (simp only [i64_w, i32_w]; rw [c7b0]) | skip)
      have H' := Aside0.mk H; clear H; go_wp2; go_meet
      case rel => exact ⟨_, (decide ((l0.length : Int) > 0)), EB, H', ⟨by have := HJ2.out; first | omega | exact Nat.le_refl _⟩, ⟨BU HB.out⟩⟩
     ·rw [if_neg c7] at H; have c7b0 : (a1 == 0) = false := beq_eq_false_iff_ne.mpr c7; have c7b1 : (a1 != 0) = true := bne_iff_ne.mpr c7
      (first | rw [c7b0] | (simp only [i64_w, i32_w]; rw [c7b0]) | skip)
      have H' := Aside0.mk H; clear H; go_wp2; go_meet
      case rel => exact ⟨_, (false), EB, H', ⟨by have := HJ2.out; first | omega | exact Nat.le_refl _⟩, ⟨BU HB.out⟩⟩
    case rest =>
     clear HC6; (try clear p2); (try clear c4); (try clear c4b0); (try clear c5); (try clear c7); (try clear c7b0); (try clear c7b1); (try clear p2); obtain ⟨kq, x24_5, rfl, HA, HJ5, HB⟩ := hcut
     cases kq with
     | zero => exact absurd HA.out (by simp [fore_Get.j1])
     | succ kj5 =>
      have H := HA.out; clear HA; simp only [fore_Get.j1] at H
      by_cases c8 : x24_5 = true
      ·subst c8
       have H1 : (some (([] : List Int), 3)) = some (r1, r2) := by rw [if_pos rfl] at H; exact H
       clear H; have H := H1; clear H1; simp only [Option.some.injEq, Prod.mk.injEq] at H; obtain ⟨rfl, rfl⟩ := H; go_wp2
       go_ret2
       exact ⟨_, ER, by first | exact Kd.R_nil _ _ _ _ _ | exact Kd.N_nil _ _ _ _ _ | exact Kd.V_nil _ _ _ _ _ | exact Kd.Q_nil _ _ _ _ _ | exact Kd.S_nil _ _ _ _ _, BU HB.out⟩
      ·replace c8 := Bool.eq_false_iff.mpr c8; subst c8
       have H1 : (if a1 = 0 then (some (([] : List Int), 0)) else ((num_NewReader.f l0).bind fun bt451 => ((num_Reader_Var.f kj5 bt451.1 bt451.2.1 bt451.2.2.1 bt451.2.2.2).bind fun bt456 => ((num_Zag.f bt456.1).bind fun t460 => ((num_Reader_Fix.f kj5 bt451.1 bt456.2.1 bt456.2.2.1 bt456.2.2.2 1).bind fun bt461 => (if (wrap64 (bt461.1)) > 64 then ((num_Reader_Fail.f bt451.1 bt461.2.1 bt461.2.2.1 bt461.2.2.2 5).bind fun bt465 => (fore_Get.j2 kj5 a1 t460 (wrap64 (bt461.1)) bt451.1 bt465.1 bt465.2.1 bt465.2.2)) else (fore_Get.j2 kj5 a1 t460 (wrap64 (bt461.1)) bt451.1 bt461.2.1 bt461.2.2.1 bt461.2.2.2))))))) = some (r1, r2) := by rw [if_neg (show ¬ (false = true) by decide)] at H; exact H
       clear H; have H := H1; clear H1
       by_cases c9 : a1 = 0
       ·rw [if_pos c9] at H; have c9b0 : (a1 == 0) = true := beq_iff_eq.mpr c9; have c9b1 : (a1 != 0) = false := bne_eq_false_iff_eq.mpr c9; clear c9; simp only [Option.some.injEq, Prod.mk.injEq] at H; obtain ⟨rfl, rfl⟩ := H; go_wp2
        go_ret2
        exact ⟨_, ER, by first | exact Kd.R_nil _ _ _ _ _ | exact Kd.N_nil _ _ _ _ _ | exact Kd.V_nil _ _ _ _ _ | exact Kd.Q_nil _ _ _ _ _ | exact Kd.S_nil _ _ _ _ _, BU HB.out⟩
       ·rw [if_neg c9] at H; have c9b0 : (a1 == 0) = false := beq_eq_false_iff_ne.mpr c9; have c9b1 : (a1 != 0) = true := bne_iff_ne.mpr c9; replace H := Option.bind_eq_some_iff.mp H; obtain ⟨⟨t451, t452, t453, t454⟩, A100, H⟩ := H; (try dsimp only at H); have A10 := Aside0.mk A100; clear A100; replace H := Option.bind_eq_some_iff.mp H; obtain ⟨⟨t456, t457, t458, t459⟩, A110, H⟩ := H; (try dsimp only at H); have A11 := Aside0.mk A110; clear A110; replace H := Option.bind_eq_some_iff.mp H; obtain ⟨t460, A120, H⟩ := H; (try dsimp only at H); have A12 := Aside0.mk A120; clear A120; replace H := Option.bind_eq_some_iff.mp H; obtain ⟨⟨t461, t462, t463, t464⟩, A130, H⟩ := H; (try dsimp only at H); have A13 := Aside0.mk A130; clear A130; have HC14 := Aside0.mk H; clear H
        go_upto_if 44 with (first | ((with_reducible refine gate_callee (f := 18) rfl ?_); refine goesL_ (some 36) rfl rfl Tryz.func18 (by kernel_rfl) rfl #[.slice A0 l0.length c0] rfl EA ?_; (with_reducible refine (num_NewReader.calls _ _ l0 t451 t452 t453 t454 w _ ?side1 ?side2 ?side3 hG A10.out).mono ?_); (case side1 => exact BU HB.out); (case side2 => exact CU ((Kd.C_below HR0.out HB.out))); (case side3 => exact HC0.out); rintro e w15 ⟨g455, rfl, hi, hb, hb2⟩; refine ⟨_, rfl, ?_⟩; replace HB := Aside0.mk hb; have HI455 := Aside0.mk hi; clear hb hb2 hi) | ((with_reducible refine gate_callee (f := 65) rfl ?_); refine goesL_ (some 38) rfl rfl Tryz.func65 (by kernel_rfl) rfl #[.pointer (some ⟨g455, 0, none⟩)] rfl EA ?_; (with_reducible refine (num_Reader_Var.calls kj5 g455 t451 t452 t453 t454 t456 t457 t458 t459 w _ ?side1 ?side2 A11.out).mono ?_); (case side1 => exact IU73 HI455.out); (case side2 => exact BV73 HI455.out HB.out); rintro e w16 ⟨rfl, hi, hb, hk⟩; refine ⟨_, rfl, ?_⟩; replace HB := Aside0.mk hb; replace HI455 := Aside0.mk hi; clear hb hk hi) | ((with_reducible refine gate_callee (f := 71) rfl ?_); refine goesL_ (some 39) rfl rfl Tryz.func71 (by kernel_rfl) rfl #[.int .u64 t456] rfl EA ?_; (with_reducible refine (num_Zag.calls t456 t460 _ A12.out).mono ?_); rintro e w' ⟨rfl, ⟨nd, rfl⟩⟩; refine ⟨_, rfl, ?_⟩) | ((with_reducible refine gate_callee (f := 33) rfl ?_); refine goesL_ (some 41) rfl rfl Tryz.func33 (by kernel_rfl) rfl #[.pointer (some ⟨g455, 0, none⟩), .int .i64 1] rfl EA ?_; (with_reducible refine (num_Reader_Fix.calls kj5 g455 t451 t457 t458 t459 1 t461 t462 t463 t464 w _ ?side1 ?side2 A13.out).mono ?_); (case side1 => exact IU73 HI455.out); (case side2 => exact BV73 HI455.out HB.out); rintro e w17 ⟨rfl, hi, hb, hk⟩; refine ⟨_, rfl, ?_⟩; replace HB := Aside0.mk hb; replace HI455 := Aside0.mk hi; clear hb hk hi))
        (try simp only [Act.put, List.setIfInBounds_toArray, List.set_cons_zero, List.set_cons_succ])
        go_cut [] (fun wc => ∃ (kq : Nat) (x456001_13 : Int) (x456002_13 : Int) (x456003_13 : Int), Aside0 (fore_Get.j2 kq a1 t460 (wrap64 (t461)) t451 x456001_13 x456002_13 x456003_13 = some (r1, r2)) ∧ Aside0 (kq ≤ kj5) ∧ Aside0 (IsS73 w wc g455 t451 x456001_13 x456002_13 x456003_13) ∧ Aside0 (Below w.heap.size w wc))
        case first =>
         have H := HC14.out; clear HC14
         by_cases c18 : (wrap64 (t461)) > 64
         ·rw [if_pos c18] at H; have c18b0 : decide (64 < (wrap64 (t461))) = true := decide_eq_true c18; clear c18
          (first | rw [c18b0] | (simp only [i64_w, i32_w]; rw [c18b0]) | skip)
          replace H := Option.bind_eq_some_iff.mp H; obtain ⟨⟨t465, t466, t467⟩, A190, H⟩ := H; (try dsimp only at H); have A19 := Aside0.mk A190; clear A190; have H' := Aside0.mk H; clear H
          go_wp2_with (first | (go_at_call 39; (with_reducible refine (num_Reader_Fail.calls g455 t451 t462 t463 t464 5 t465 t466 t467 w _ ?side1 ?side2 A19.out).mono ?_); (case side1 => exact IU73 HI455.out); (case side2 => exact BV73 HI455.out HB.out); rintro e w20 ⟨rfl, hi, hb, hk⟩; replace HB := Aside0.mk hb; replace HI455 := Aside0.mk hi; clear hb hk hi))
          go_meet
          case rel => exact ⟨_, (t465), (t466), (t467), H', ⟨by have := HJ2.out; have := HJ5.out; first | omega | exact Nat.le_refl _⟩, ⟨IU73 HI455.out⟩, ⟨BV73 HI455.out HB.out⟩⟩
         ·rw [if_neg c18] at H; have c18b0 : decide (64 < (wrap64 (t461))) = false := decide_eq_false c18; clear c18
          (first | rw [c18b0] | (simp only [i64_w, i32_w]; rw [c18b0]) | skip)
          have H' := Aside0.mk H; clear H; go_wp2; go_meet
          case rel => exact ⟨_, (t462), (t463), (t464), H', ⟨by have := HJ2.out; have := HJ5.out; first | omega | exact Nat.le_refl _⟩, ⟨IU73 HI455.out⟩, ⟨BV73 HI455.out HB.out⟩⟩
        case rest =>
         clear HC14; (try clear c1); (try clear p2); (try clear c3); (try clear c4); (try clear c4b0); (try clear c5); (try clear c6); (try clear p6); (try clear c7); (try clear c7b0); (try clear c7b1); (try clear c8); (try clear c9); (try clear c9b0); (try clear c9b1); (try clear c18); (try clear c18b0); (try clear p2); obtain ⟨kq, x456001_13, x456002_13, x456003_13, HA, HJ13, HI455, HB⟩ := hcut
         cases kq with
         | zero => exact absurd HA.out (by simp [fore_Get.j2])
         | succ kj13 =>
          have H := HA.out; clear HA; simp only [fore_Get.j2] at H; replace H := Option.bind_eq_some_iff.mp H; obtain ⟨⟨t468, t469, t470, t471, t472⟩, A210, H⟩ := H; (try dsimp only at H); have A21 := Aside0.mk A210; clear A210
          by_cases c22 : t468 = 0
          ·rw [if_pos c22] at H; have c22b0 : (t468 == 0) = true := beq_iff_eq.mpr c22; have c22b1 : (t468 != 0) = false := bne_eq_false_iff_eq.mpr c22; clear c22; replace H := Option.bind_eq_some_iff.mp H; obtain ⟨⟨t473, t474, t475, t476⟩, A230, H⟩ := H; (try dsimp only at H); have A23 := Aside0.mk A230; clear A230; replace H := Option.bind_eq_some_iff.mp H; obtain ⟨⟨t477, t480, t481, t482⟩, A240, H⟩ := H; (try dsimp only at H); have A24 := Aside0.mk A240; clear A240; replace H := Option.bind_eq_some_iff.mp H; obtain ⟨⟨t483, t484⟩, A250, H⟩ := H; (try dsimp only at H); have A25 := Aside0.mk A250; clear A250
           by_cases c26 : t484 = 0
           ·rw [if_pos c26] at H; have c26b0 : (t484 == 0) = true := beq_iff_eq.mpr c26; have c26b1 : (t484 != 0) = false := bne_eq_false_iff_eq.mpr c26; clear c26; have HC27 := Aside0.mk H; clear H
            go_upto_region 18 with (first | ((with_reducible refine gate_callee (f := 35) rfl ?_); refine goesL_ (some 49) rfl rfl Tryz.func35 (by kernel_rfl) rfl #[.pointer (some ⟨g455, 0, none⟩)] rfl EA ?_; (with_reducible refine (num_Reader_Err.calls g455 t451 x456001_13 x456002_13 x456003_13 t468 t469 t470 t471 t472 w _ ?side1 ?side2 A21.out).mono ?_); (case side1 => exact IU73 HI455.out); (case side2 => exact BV73 HI455.out HB.out); rintro e w28 ⟨rfl, hi, hb, hk⟩; refine ⟨_, rfl, ?_⟩; replace HB := Aside0.mk hb; replace HI455 := Aside0.mk hi; clear hb hk hi) | ((with_reducible refine gate_callee (f := 23) rfl ?_); refine goesL_ (some 58) rfl rfl Tryz.func23 (by kernel_rfl) rfl #[.pointer (some ⟨g455, 0, none⟩)] rfl EA ?_; (with_reducible refine (num_Reader_Left.calls g455 t451 t470 t471 t472 t473 t474 t475 t476 w _ ?side1 ?side2 A23.out).mono ?_); (case side1 => exact IU73 HI455.out); (case side2 => exact BV73 HI455.out HB.out); rintro e w29 ⟨rfl, hi, hb, hk⟩; refine ⟨_, rfl, ?_⟩; replace HB := Aside0.mk hb; replace HI455 := Aside0.mk hi; clear hb hk hi) | ((with_reducible refine gate_callee (f := 22) rfl ?_); refine goesL_ (some 59) rfl rfl Tryz.func22 (by kernel_rfl) rfl #[.pointer (some ⟨g455, 0, none⟩), .int .i64 t473] rfl EA ?_; (with_reducible refine (num_Reader_Take.calls g455 t451 t474 t475 t476 t473 t477 t480 t481 t482 w _ ?side1 ?side2 A24.out).mono ?_); (case side1 => exact IU73 HI455.out); (case side2 => exact BV73 HI455.out HB.out); rintro e w30 ⟨v478, rfl, ho0, hi, hb, hk⟩; refine ⟨_, rfl, ?_⟩; have HO479 := Aside0.mk (Kd.R_lower ho0 (below_size (BV73 HI455.out HB.out))); replace HB := Aside0.mk hb; replace HI455 := Aside0.mk hi; clear hb hk hi ho0; obtain ⟨Ao31, co31, eo31⟩ := Kd.R_slice HO479.out; subst eo31) | ((with_reducible refine gate_callee (f := 40) rfl ?_); refine goesL_ (some 62) rfl rfl Tryz.func40 (by kernel_rfl) rfl #[.slice Ao31 t477.length co31, .int .i64 a1, .int .i64 (wrap64 (t461))] rfl EA ?_; (with_reducible refine (bits_Unpack.calls kj13 _ _ t477 a1 (wrap64 (t461)) t483 t484 _ ?side1 ?side2 A25.out).mono ?_); (case side1 => exact CU ((Kd.R_reads' HO479.out).2.2)); (case side2 => exact (Kd.R_reads' HO479.out).2.1); rintro e w32 ⟨v485, rfl, ho0, hb⟩; refine ⟨_, rfl, ?_⟩; replace HO479 := Aside0.mk (Kd.R_below (RU HO479.out) hb); have HO486 := Aside0.mk (Kd.R_lower ho0 (below_size (BV73 HI455.out HB.out))); replace HB := Aside0.mk (below_step (BV73 HI455.out HB.out) hb); replace HI455 := Aside0.mk (IsS73.below (IU73 HI455.out) hb); clear hb ho0))
            (try simp only [Act.put, List.setIfInBounds_toArray, List.set_cons_zero, List.set_cons_succ])
            go_cut [85] (fun v85 wc => ∃ (kq : Nat) (x85_26 : Bool), v85 = .bool x85_26 ∧ Aside0 (fore_Get.j3 kq t460 t483 x85_26 = some (r1, r2)) ∧ Aside0 (kq ≤ kj13) ∧ Aside0 (Kd.R (Kd.int .u64) 75 wc w.heap.size (fun _ => True) v485 t483) ∧ Aside0 (Below w.heap.size w wc))
            case first =>
             have H := HC27.out; clear HC27; replace H := Option.bind_eq_some_iff.mp H; obtain ⟨t487, A330, H⟩ := H; (try dsimp only at H); have A33 := Aside0.mk A330; clear A330
             by_cases c34 : t487 = (wrap64 (t461))
             ·rw [if_pos c34] at H; have c34b0 : (t487 == (wrap64 (t461))) = true := beq_iff_eq.mpr c34; have c34b1 : (t487 != (wrap64 (t461))) = false := bne_eq_false_iff_eq.mpr c34; clear c34
              (first | rw [c34b0] | (simp only [i64_w, i32_w]; rw [c34b0]) | skip)
              replace H := Option.bind_eq_some_iff.mp H; obtain ⟨t488, A350, H⟩ := H; (try dsimp only at H); have A35 := Aside0.mk A350; clear A350
              by_cases c36 : t488 = 0
              ·rw [if_pos c36] at H; have c36b0 : (t488 == 0) = true := beq_iff_eq.mpr c36; have c36b1 : (t488 != 0) = false := bne_eq_false_iff_eq.mpr c36; clear c36; replace H := Option.bind_eq_some_iff.mp H; obtain ⟨t489, A370, H⟩ := H; (try dsimp only at H); have A37 := Aside0.mk A370; clear A370; have H' := Aside0.mk H; clear H; obtain ⟨Ao38, co38, eo38⟩ := Kd.R_slice HO486.out; subst eo38
               go_wp2_with (first | (go_at_call 76; (with_reducible refine (bits_Width.calls kj13 _ _ t483 t487 _ ?side1 ?side2 A33.out).mono ?_); (case side1 => exact CU ((Kd.R_reads' HO486.out).2.2)); (case side2 => exact (Kd.R_reads' HO486.out).2.1); rintro e w' ⟨rfl, ⟨nd, rfl⟩⟩) | (go_at_call 83; (with_reducible refine (slices_Min_uint64_uint64.calls kj13 _ _ t483 t488 _ ?side1 ?side2 A35.out).mono ?_); (case side1 => exact CU ((Kd.R_reads' HO486.out).2.2)); (case side2 => exact (Kd.R_reads' HO486.out).2.1); rintro e w39 ⟨rfl, hb⟩; replace HO479 := Aside0.mk (Kd.R_below (RU HO479.out) hb); replace HO486 := Aside0.mk (Kd.R_below (RU HO486.out) hb); replace HB := Aside0.mk (below_step (BV73 HI455.out HB.out) hb); replace HI455 := Aside0.mk (IsS73.below (IU73 HI455.out) hb); clear hb) | (go_at_call 84; (with_reducible refine (slices_Max_uint64_uint64.calls kj13 _ _ t483 t489 _ ?side1 ?side2 A37.out).mono ?_); (case side1 => exact CU ((Kd.R_reads' HO486.out).2.2)); (case side2 => exact (Kd.R_reads' HO486.out).2.1); rintro e w40 ⟨rfl, hb⟩; replace HO479 := Aside0.mk (Kd.R_below (RU HO479.out) hb); replace HO486 := Aside0.mk (Kd.R_below (RU HO486.out) hb); replace HB := Aside0.mk (below_step (BV73 HI455.out HB.out) hb); replace HI455 := Aside0.mk (IsS73.below (IU73 HI455.out) hb); clear hb))
               go_meet
               case rel => exact ⟨_, (decide (t489 > (IntKind.u64.wrap (9223372036854775807 - (IntKind.u64.wrap (t460)))))), EB, H', ⟨by have := HJ2.out; have := HJ5.out; have := HJ13.out; first | omega | exact Nat.le_refl _⟩, ⟨RU HO486.out⟩, ⟨BV73 HI455.out HB.out⟩⟩
              ·rw [if_neg c36] at H; have c36b0 : (t488 == 0) = false := beq_eq_false_iff_ne.mpr c36; have c36b1 : (t488 != 0) = true := bne_iff_ne.mpr c36; have H' := Aside0.mk H; clear H; obtain ⟨Ao41, co41, eo41⟩ := Kd.R_slice HO486.out; subst eo41
               go_wp2_with (first | (go_at_call 76; (with_reducible refine (bits_Width.calls kj13 _ _ t483 t487 _ ?side1 ?side2 A33.out).mono ?_); (case side1 => exact CU ((Kd.R_reads' HO486.out).2.2)); (case side2 => exact (Kd.R_reads' HO486.out).2.1); rintro e w' ⟨rfl, ⟨nd, rfl⟩⟩) | (go_at_call 83; (with_reducible refine (slices_Min_uint64_uint64.calls kj13 _ _ t483 t488 _ ?side1 ?side2 A35.out).mono ?_); (case side1 => exact CU ((Kd.R_reads' HO486.out).2.2)); (case side2 => exact (Kd.R_reads' HO486.out).2.1); rintro e w42 ⟨rfl, hb⟩; replace HO479 := Aside0.mk (Kd.R_below (RU HO479.out) hb); replace HO486 := Aside0.mk (Kd.R_below (RU HO486.out) hb); replace HB := Aside0.mk (below_step (BV73 HI455.out HB.out) hb); replace HI455 := Aside0.mk (IsS73.below (IU73 HI455.out) hb); clear hb))
               go_meet
               case rel => exact ⟨_, (true), EB, H', ⟨by have := HJ2.out; have := HJ5.out; have := HJ13.out; first | omega | exact Nat.le_refl _⟩, ⟨RU HO486.out⟩, ⟨BV73 HI455.out HB.out⟩⟩
             ·rw [if_neg c34] at H; have c34b0 : (t487 == (wrap64 (t461))) = false := beq_eq_false_iff_ne.mpr c34; have c34b1 : (t487 != (wrap64 (t461))) = true := bne_iff_ne.mpr c34
              (first | rw [c34b0] | (simp only [i64_w, i32_w]; rw [c34b0]) | skip)
              have H' := Aside0.mk H; clear H; obtain ⟨Ao43, co43, eo43⟩ := Kd.R_slice HO486.out; subst eo43
              go_wp2_with (first | (go_at_call 76; (with_reducible refine (bits_Width.calls kj13 _ _ t483 t487 _ ?side1 ?side2 A33.out).mono ?_); (case side1 => exact CU ((Kd.R_reads' HO486.out).2.2)); (case side2 => exact (Kd.R_reads' HO486.out).2.1); rintro e w' ⟨rfl, ⟨nd, rfl⟩⟩))
              go_meet
              case rel => exact ⟨_, (true), EB, H', ⟨by have := HJ2.out; have := HJ5.out; have := HJ13.out; first | omega | exact Nat.le_refl _⟩, ⟨RU HO486.out⟩, ⟨BV73 HI455.out HB.out⟩⟩
            case rest =>
             clear HC27; (try clear c1); (try clear c2); (try clear p2); (try clear c3); (try clear c4); (try clear c4b0); (try clear c5); (try clear c6); (try clear p6); (try clear c7); (try clear c7b0); (try clear c7b1); (try clear c8); (try clear c9); (try clear c9b0); (try clear c9b1); (try clear c18); (try clear c18b0); (try clear c22); (try clear c22b0); (try clear c22b1); (try clear c23); (try clear c26); (try clear c26b0); (try clear c26b1); (try clear c33); (try clear c34); (try clear c34b0); (try clear c34b1); (try clear c35); (try clear c36); (try clear c36b0); (try clear c36b1); (try clear c39); (try clear c40); (try clear p2); (try clear p6); obtain ⟨kq, x85_26, rfl, HA, HJ26, HO_11, HB⟩ := hcut
             cases kq with
             | zero => exact absurd HA.out (by simp [fore_Get.j3])
             | succ kj26 =>
              have H := HA.out; clear HA; simp only [fore_Get.j3] at H
              by_cases c44 : x85_26 = true
              ·subst c44
               have H1 : (some (([] : List Int), 4)) = some (r1, r2) := by rw [if_pos rfl] at H; exact H
               clear H; have H := H1; clear H1; simp only [Option.some.injEq, Prod.mk.injEq] at H; obtain ⟨rfl, rfl⟩ := H; go_wp2
               go_ret2
               exact ⟨_, ER, by first | exact Kd.R_nil _ _ _ _ _ | exact Kd.N_nil _ _ _ _ _ | exact Kd.V_nil _ _ _ _ _ | exact Kd.Q_nil _ _ _ _ _ | exact Kd.S_nil _ _ _ _ _, BU HB.out⟩
              ·replace c44 := Bool.eq_false_iff.mpr c44; subst c44
               have H1 : (fore_Get.l0 kj26 t460 ([] : List Int) t483 (t483.length : Int) 0) = some (r1, r2) := by rw [if_neg (show ¬ (false = true) by decide)] at H; exact H
               clear H; have H := H1; clear H1; have H' := Aside0.mk H; clear H; obtain ⟨Ao45, co45, eo45⟩ := Kd.R_slice HO_11.out; subst eo45; go_wp2
               go_loopg [14, 88] kj26 (fun kq v14 v88 w' => ∃ (x14_5 : List Int) (x88_5 : Int), v88 = .int .i64 x88_5 ∧ Aside0 (fore_Get.l0 kq t460 x14_5 t483 (t483.length : Int) x88_5 = some (r1, r2)) ∧ Aside0 (kq ≤ kj26) ∧ Aside0 (Kd.R (Kd.int .i64) 2 w' w.heap.size (fun _ => True) v14 x14_5) ∧ Aside0 (Kd.R (Kd.int .u64) 75 w' w.heap.size (fun _ => True) (.slice Ao45 t483.length co45) t483) ∧ Aside0 (Below w.heap.size w w'))
               case atStart => exact ⟨(([] : List Int)), (0), EB, H', ⟨Nat.le_refl _⟩, ⟨by first | exact Kd.R_nil _ _ _ _ _ | exact Kd.N_nil _ _ _ _ _ | exact Kd.V_nil _ _ _ _ _ | exact Kd.Q_nil _ _ _ _ _ | exact Kd.S_nil _ _ _ _ _⟩, ⟨RU HO_11.out⟩, ⟨BU HB.out⟩⟩
               case round =>
                clear H'; (try clear c1); (try clear c2); (try clear p2); (try clear c3); (try clear c4); (try clear c4b0); (try clear c5); (try clear c6); (try clear p6); (try clear c7); (try clear c7b0); (try clear c7b1); (try clear c8); (try clear c9); (try clear c9b0); (try clear c9b1); (try clear c18); (try clear c18b0); (try clear c22); (try clear c22b0); (try clear c22b1); (try clear c23); (try clear c26); (try clear c26b0); (try clear c26b1); (try clear c33); (try clear c34); (try clear c34b0); (try clear c34b1); (try clear c35); (try clear c36); (try clear c36b0); (try clear c36b1); (try clear c39); (try clear c40); (try clear c44); (try clear p2); (try clear p6); obtain ⟨x14_5, x88_5, rfl, HA, HK5, HO_14, HO_86, HB⟩ := hrel
                cases gk with
                | zero => exact absurd HA.out (by simp [fore_Get.l0])
                | succ k5 =>
                 have H := HA.out; clear HA; simp only [fore_Get.l0] at H
                 by_cases c46 : x88_5 < (t483.length : Int)
                 ·rw [if_pos c46] at H; have c46b0 := decide_eq_true c46; clear c46
                  by_cases c47 : 0 ≤ x88_5
                  ·rw [if_pos c47] at H; have c47b0 := decide_eq_true c47; clear c47
                   by_cases c48 : x88_5 < (t483.length : Int)
                   ·rw [if_pos c48] at H; have c48b0 := decide_eq_true c48; clear c48
                    by_cases c49 : x14_5.length < 17592186044416
                    ·rw [if_pos c49] at H; have LMc49 := Aside0.mk c49; clear c49
                     obtain ⟨y491, hy491⟩ : ∃ y_ : List Int, y_ = (x14_5 ++ [wrap64 (IntKind.u64.wrap ((IntKind.u64.wrap (t460)) + (rd t483 x88_5)))]) := ⟨_, rfl⟩
                     replace H : (fore_Get.l0 k5 t460 y491 t483 (t483.length : Int) (wrap64 (x88_5 + 1))) = some (r1, r2) := HY hy491 H; have Ny491 := Aside0.mk hy491; clear hy491; have H' := Aside0.mk H; clear H; have p490 : 0 ≤ (x88_5 : Int) := OD; have q490 : x88_5 < (t483.length : Int) := OD; obtain ⟨ad490, e490, hx490_0⟩ := Kd.at_int (Kd.R_reads' HO_86.out).2.2 x88_5 p490 q490
                     cases e490
                     replace p490 := eq_true p490; replace q490 := eq_true q490
                     go_wp2_with (first | ((with_reducible refine gate_builtin (b := .append) (xs := #[.tmp 92, .tmp 98]) rfl ?_); (try (refine gate_guard (by rfl) ?_; dsimp only)); at_builtin; refine Kd.R_append (Kd.int .i64) (w0 := w) w.heap.size rfl (.tmp 92) (.tmp 98) 51 2 (.int .i64 0) 8 rfl Tryz.underlying51 info2 rfl (by decide) (by omega) u14 x14_5 (wrap64 (IntKind.u64.wrap ((IntKind.u64.wrap (t460)) + (rd t483 x88_5)))) [.int .i64 (wrap64 (IntKind.u64.wrap ((IntKind.u64.wrap (t460)) + (rd t483 x88_5))))] (fun _ => True) (fun _ => False) rfl rfl ?aP (fun _ hk => hk.elim) ?aF ?aO ?aB ?aS ?aL ?_; (case aP => exact rfl); (case aB => exact (BU HB.out)); (case aF => exact (fun _ _ => trivial)); (case aO => exact (RU HO_14.out)); (case aS => exact (below_size (BU HB.out))); (case aL => have := LMc49.out; omega); intro v492 w50 ho hb hg hat; rw [← Ny491.out] at ho; replace HO_86 := Aside0.mk (Kd.R_over' (RU HO_86.out) (Kd.R_typed (RU HO_14.out)) (by decide) hg); replace HB := Aside0.mk hb; have HO493 := Aside0.mk ho; clear HO_14; clear ho hb hg hat))
                     go_roundg k5
                     case measure => have := HJ2.out; have := HJ5.out; have := HJ13.out; have := HJ26.out; have := HK5.out; omega
                     case rel => exact ⟨(y491), (wrap64 (x88_5 + 1)), EB, H', ⟨by have := HJ2.out; have := HJ5.out; have := HJ13.out; have := HJ26.out; have := HK5.out; omega⟩, ⟨RU HO493.out⟩, ⟨RU HO_86.out⟩, ⟨BU HB.out⟩⟩
                    ·rw [if_neg c49] at H; exact absurd H (by simp)
                   ·rw [if_neg c48] at H; exact absurd H (by simp)
                  ·rw [if_neg c47] at H; exact absurd H (by simp)
                 ·rw [if_neg c46] at H; have c46b0 := decide_eq_false c46; clear c46; simp only [Option.some.injEq, Prod.mk.injEq] at H; obtain ⟨rfl, rfl⟩ := H; go_wp2
                  go_ret2
                  exact ⟨_, ER, RU HO_14.out, BU HB.out⟩
           ·rw [if_neg c26] at H; have c26b0 : (t484 == 0) = false := beq_eq_false_iff_ne.mpr c26; have c26b1 : (t484 != 0) = true := bne_iff_ne.mpr c26; simp only [Option.some.injEq, Prod.mk.injEq] at H; obtain ⟨rfl, rfl⟩ := H
            go_wp2_with (first | (go_at_call 35; (with_reducible refine (num_Reader_Err.calls g455 t451 x456001_13 x456002_13 x456003_13 t468 t469 t470 t471 t472 w _ ?side1 ?side2 A21.out).mono ?_); (case side1 => exact IU73 HI455.out); (case side2 => exact BV73 HI455.out HB.out); rintro e w51 ⟨rfl, hi, hb, hk⟩; replace HB := Aside0.mk hb; replace HI455 := Aside0.mk hi; clear hb hk hi) | (go_at_call 23; (with_reducible refine (num_Reader_Left.calls g455 t451 t470 t471 t472 t473 t474 t475 t476 w _ ?side1 ?side2 A23.out).mono ?_); (case side1 => exact IU73 HI455.out); (case side2 => exact BV73 HI455.out HB.out); rintro e w52 ⟨rfl, hi, hb, hk⟩; replace HB := Aside0.mk hb; replace HI455 := Aside0.mk hi; clear hb hk hi) | (go_at_call 22; (with_reducible refine (num_Reader_Take.calls g455 t451 t474 t475 t476 t473 t477 t480 t481 t482 w _ ?side1 ?side2 A24.out).mono ?_); (case side1 => exact IU73 HI455.out); (case side2 => exact BV73 HI455.out HB.out); rintro e w53 ⟨v478, rfl, ho0, hi, hb, hk⟩; have HO479 := Aside0.mk (Kd.R_lower ho0 (below_size (BV73 HI455.out HB.out))); replace HB := Aside0.mk hb; replace HI455 := Aside0.mk hi; clear hb hk hi ho0; obtain ⟨Ao54, co54, eo54⟩ := Kd.R_slice HO479.out; subst eo54) | (go_at_call 40; (with_reducible refine (bits_Unpack.calls kj13 _ _ t477 a1 (wrap64 (t461)) t483 t484 _ ?side1 ?side2 A25.out).mono ?_); (case side1 => exact CU ((Kd.R_reads' HO479.out).2.2)); (case side2 => exact (Kd.R_reads' HO479.out).2.1); rintro e w55 ⟨v485, rfl, ho0, hb⟩; replace HO479 := Aside0.mk (Kd.R_below (RU HO479.out) hb); have HO486 := Aside0.mk (Kd.R_lower ho0 (below_size (BV73 HI455.out HB.out))); replace HB := Aside0.mk (below_step (BV73 HI455.out HB.out) hb); replace HI455 := Aside0.mk (IsS73.below (IU73 HI455.out) hb); clear hb ho0))
            go_ret2
            exact ⟨_, ER, by first | exact Kd.R_nil _ _ _ _ _ | exact Kd.N_nil _ _ _ _ _ | exact Kd.V_nil _ _ _ _ _ | exact Kd.Q_nil _ _ _ _ _ | exact Kd.S_nil _ _ _ _ _, BV73 HI455.out HB.out⟩
          ·rw [if_neg c22] at H; have c22b0 : (t468 == 0) = false := beq_eq_false_iff_ne.mpr c22; have c22b1 : (t468 != 0) = true := bne_iff_ne.mpr c22; simp only [Option.some.injEq, Prod.mk.injEq] at H; obtain ⟨rfl, rfl⟩ := H
           go_wp2_with (first | (go_at_call 35; (with_reducible refine (num_Reader_Err.calls g455 t451 x456001_13 x456002_13 x456003_13 t468 t469 t470 t471 t472 w _ ?side1 ?side2 A21.out).mono ?_); (case side1 => exact IU73 HI455.out); (case side2 => exact BV73 HI455.out HB.out); rintro e w56 ⟨rfl, hi, hb, hk⟩; replace HB := Aside0.mk hb; replace HI455 := Aside0.mk hi; clear hb hk hi))
           go_ret2
           exact ⟨_, ER, by first | exact Kd.R_nil _ _ _ _ _ | exact Kd.N_nil _ _ _ _ _ | exact Kd.V_nil _ _ _ _ _ | exact Kd.Q_nil _ _ _ _ _ | exact Kd.S_nil _ _ _ _ _, BV73 HI455.out HB.out⟩

-- NOT PRINTED: function 24 (chunk_forms)

/-! ### bitmap_size: function 63 -/
def texts_width.f (a0 : Int) : Option (Int) := (bits_Len.f (IntKind.u64.wrap (mx (wrap64 (a0 - 1)) 0))).bind fun t494 => (some t494)
set_option maxHeartbeats 8000000 in
set_option maxRecDepth 100000 in
theorem texts_width.calls (a0 : Int) (r : Int) (w : World) (h : texts_width.f a0 = some r) :
  Calls Tryz.prog 38 #[.int .i64 a0] w fun e w' => e = .returned (.int .i64 r) ∧ Below w.heap.size w w' := by
 have HB := Aside0.mk (Below.refl w.heap.size w); have H : ((bits_Len.f (IntKind.u64.wrap (mx (wrap64 (a0 - 1)) 0))).bind fun t494 => (some t494)) = some r := h; clear h
 obtain ⟨ji2, hji2⟩ : ∃ j_ : Int, (mx (wrap64 (a0 - 1)) 0) = j_ := ⟨_, rfl⟩
 replace H : ((bits_Len.f (IntKind.u64.wrap (ji2))).bind fun t494 => (some t494)) = some r := by first | (rw [hji2] at H; exact H) | (simp only [hji2] at H ⊢; exact H)
 (try (have hji2l : 0 ≤ ji2 := by (rw [← hji2]; unfold mx; (repeat' split) <;> omega)))
 (try (have hji2m : 0 ≤ ji2 := by omega))
 have hji2_ : (if (wrap64 (a0 - 1)) < 0 then 0 else (wrap64 (a0 - 1))) = ji2 := hji2; replace H := Option.bind_eq_some_iff.mp H; obtain ⟨t494, A30, H⟩ := H; replace H : (some t494) = some r := H; have A3 := Aside0.mk A30; clear A30; obtain rfl := Option.some.inj H; go_enter Tryz.func38, Tryz.ntmps38
 go_wp2_with (first | ((with_reducible refine gate_callee (f := 67) rfl ?_); refine goesL_ (some 7) rfl rfl Tryz.func67 (by kernel_rfl) rfl #[.int .u64 (IntKind.u64.wrap (ji2))] rfl (by (try simp only [List.map_toArray, List.map_cons, List.map_nil]); first | done | (simp only [hji2]; rfl) | rfl | (simp only [List.length_drop, List.length_take]; rfl)) ?_; (with_reducible refine (bits_Len.calls (IntKind.u64.wrap (ji2)) t494 _ A3.out).mono ?_); rintro e w' ⟨rfl, ⟨nd, rfl⟩⟩; refine ⟨_, rfl, ?_⟩))
 go_ret
 exact ⟨by first | rfl | (simp [errW_none, errW_some] <;> rfl) | (simp only [← hji2]; first | rfl | (simp [errW_none, errW_some] <;> rfl)) | (simp [*, errW_none, errW_some] <;> rfl), BU HB.out⟩

/-! ### slices_IndexFunc_string_string: function 85 -/
def slices_IndexFunc_string_string.p (s : ByteArray) : Bool := decide (65536 < s.size)
def slices_IndexFunc_string_string.f (l0 : List ByteArray) : Option Int := some (Go.Lib.idxBy (fun _ y => slices_IndexFunc_string_string.p y) l0 default)
set_option maxHeartbeats 1000000 in
theorem slices_IndexFunc_string_string.pred (x : ByteArray) (W : World) : Calls Tryz.prog 57 #[.string x] W fun e w' => e = .returned (.bool (slices_IndexFunc_string_string.p x)) ∧ ∃ q, w' = W.drewN q := by
 unfold slices_IndexFunc_string_string.p; go_enter Tryz.func57, Tryz.ntmps57; go_wp2
 all_goals (go_ret; exact ⟨by first | rfl | (simp; done) | (simp; omega), 0, rfl⟩)
set_option maxHeartbeats 4000000 in
theorem slices_IndexFunc_string_string.calls (A0 : Option Addr) (c0 : Nat) (l0 : List ByteArray) (r : Int) (w : World) (hr0 : Kd.string.C w A0 l0.length l0) (hc0 : l0.length ≤ c0) (h : slices_IndexFunc_string_string.f l0 = some r) :
  Calls Tryz.prog 85 #[.slice A0 l0.length c0, .func (.func 57) #[] #[]] w fun e w' => e = .returned (.int .i64 r) ∧ Drawn0 w w' := by
 have hr := Option.some.inj h; clear h; have hlen := hr0.2.1; have HR0 := Aside0.mk hr0; have HRR := Aside0.mk hr; clear hr0 hc0 hr; go_enter Tryz.func85, Tryz.ntmps85; go_wp2
 go_loopg [5, 8] l0.length (fun gg _ s8 wr => ∃ (x : Int) (q : Nat), Aside0 (0 ≤ x ∧ x ≤ (l0.length : Int) ∧ l0.length - x.toNat ≤ gg) ∧ s8 = .int .i64 x ∧ wr = w.drewN q ∧ Aside (∀ j, j < x.toNat → slices_IndexFunc_string_string.p l0[j]! = false))
 case atStart => exact ⟨0, 0, ⟨by omega, by omega, by omega⟩, rfl, rfl, fun j hj => absurd hj (Nat.not_lt_zero _)⟩
 case round =>
  obtain ⟨x, q, HX, rfl, rfl, A⟩ := hrel
  by_cases hlt : x < (l0.length : Int)
  ·have p1 : 0 ≤ x := HX.out.1; obtain ⟨ad1, e1, hx1⟩ := Kd.at_string HR0.out x p1 hlt
   cases e1
   have hget : l0[x.toNat]! = rdOf ByteArray.empty l0 x := by
    have hj : x.toNat < l0.length := by omega
    rw [List.getElem!_eq_getElem?_getD, List.getElem?_eq_getElem hj]; unfold rdOf; rw [List.getD_eq_getElem?_getD, List.getElem?_eq_getElem hj]; rfl
   generalize hy : rdOf ByteArray.empty l0 x = y at hx1 hget; have HGe := Aside0.mk hget; clear hget hy; have hb0 : decide (x < (l0.length : Int)) = true := decide_eq_true hlt; have HLT := Aside0.mk hlt; have q1 := eq_true hlt; have p1' := eq_true p1; clear hlt p1; have hcall := slices_IndexFunc_string_string.pred y
   cases hq : slices_IndexFunc_string_string.p y with
   | true =>
    rw [hq] at hcall; have HQ := Aside0.mk hq; clear hq
    go_wp2_with (go_at_call 57; refine (hcall _).mono ?_; rintro e w' ⟨rfl, q', rfl⟩)
    go_ret
    refine ⟨?_, _, rfl⟩; rw [← HRR.out]; have hk := Go.Lib.idxBy_hit (fun _ y => slices_IndexFunc_string_string.p y) l0 l0.length x.toNat default (by have := HLT.out; have := HX.out; omega) (Nat.le_refl _) (by show slices_IndexFunc_string_string.p l0[x.toNat]! = true; rw [HGe.out]; exact HQ.out) A.out; rw [List.take_length] at hk; rw [hk, Int.toNat_of_nonneg HX.out.1]
    rfl
   | false =>
    rw [hq] at hcall; have HQ := Aside0.mk hq; clear hq
    go_wp2_with (go_at_call 57; refine (hcall _).mono ?_; rintro e w' ⟨rfl, q', rfl⟩)
    go_roundg (l0.length - (x.toNat + 1))
    case measure => have := HX.out; have := HLT.out; omega
    case rel =>
     have h1 := HX.out; have h2 := HLT.out
     have hw : wrap64 (x + 1) = x + 1 := by unfold wrap64; omega
     refine ⟨wrap64 (x + 1), _, ⟨by omega, by omega, by omega⟩, rfl, rfl, (show Aside _ from fun j hj => ?_)⟩; rw [hw] at hj
     by_cases e : j = x.toNat
     ·subst e; rw [HGe.out]; exact HQ.out
     ·exact A.out j (by omega)
  ·have hb0 : decide (x < (l0.length : Int)) = false := decide_eq_false hlt; have HLT := Aside0.mk hlt; clear hlt; go_wp2
   go_ret
   refine ⟨?_, q, rfl⟩; rw [← HRR.out]; have hm := Go.Lib.idxBy_miss (fun _ y => slices_IndexFunc_string_string.p y) l0 l0.length default (fun j hj => A.out j (by have := HLT.out; have := HX.out; omega)); rw [List.take_length] at hm; rw [hm]
   rfl

/-! ### slices_ContainsFunc_string_string: function 56 -/
def slices_ContainsFunc_string_string.f (l0 : List ByteArray) : Option Bool := some (l0.any slices_IndexFunc_string_string.p)
set_option maxHeartbeats 1000000 in
theorem slices_ContainsFunc_string_string.calls (A0 : Option Addr) (c0 : Nat) (l0 : List ByteArray) (r : Bool) (w : World) (hr0 : Kd.string.C w A0 l0.length l0) (hc0 : l0.length ≤ c0) (h : slices_ContainsFunc_string_string.f l0 = some r) :
  Calls Tryz.prog 56 #[.slice A0 l0.length c0, .func (.func 57) #[] #[]] w fun e w' => e = .returned (.bool r) ∧ Drawn0 w w' := by
 have hr := Option.some.inj h; have hcall := slices_IndexFunc_string_string.calls A0 c0 l0 _ w hr0 hc0 rfl; rw [← Go.Lib.idxBy_nonneg_iff (fun _ y => slices_IndexFunc_string_string.p y) l0 default] at hr; generalize Go.Lib.idxBy (fun _ y => slices_IndexFunc_string_string.p y) l0 default = i at *; clear hr0 hc0 h; subst hr; go_enter Tryz.func56, Tryz.ntmps56
 go_wp2_with (go_at_call 85; refine hcall.mono ?_; rintro e w' ⟨rfl, q, rfl⟩)
 go_ret
 exact ⟨rfl, q, rfl⟩

/-! ### slices_Clone_string_string: function 86 -/
def slices_Clone_string_string.f (l0 : List ByteArray) : Option (List ByteArray) := if l0.length * 16 ≤ 140737488355328 then some l0 else none
theorem slices_Clone_string_string.info : (Tryz.prog.info? 9).map (fun i => (i.zero, i.size, i.bytes)) = some (some (.string ByteArray.empty), 1, 16) := by kernel_rfl
theorem slices_Clone_string_string.under : Tryz.prog.underlying 52 = some (.slice 9) := by kernel_rfl
set_option maxHeartbeats 4000000 in
theorem slices_Clone_string_string.calls (A0 : Option Addr) (c0 : Nat) (l0 : List ByteArray) (r : List ByteArray) (w : World) (hr0 : Kd.string.C w A0 l0.length l0) (hc0 : l0.length ≤ c0) (h : slices_Clone_string_string.f l0 = some r) :
  Calls Tryz.prog 86 #[.slice A0 l0.length c0] w fun e w' => ∃ v0_ : Value, e = .returned v0_ ∧ Kd.string.R 9 w' w.heap.size (fun _ => True) v0_ r ∧ Below w.heap.size w w' := by
 unfold slices_Clone_string_string.f at h
 by_cases hl : l0.length * 16 ≤ 140737488355328
 ·rw [if_pos hl] at h; obtain rfl := Option.some.inj h
  cases A0 with
  | none =>
   have h0 : l0 = [] := by
    rcases l0 with _ | ⟨x, l⟩
    ·rfl
    ·obtain ⟨ad, e, _⟩ := hr0.2.2 (by simp)
     cases e
   subst h0
   have e1 : ∀ w, (binOp BinOp.eql 52 (.slice none ([] : List ByteArray).length c0) (.slice none 0 0)).run Tryz.prog w = .ok (.bool true) w := fun w => by kernel_rfl
   simp only [List.length_nil] at e1 ⊢; go_enter Tryz.func86, Tryz.ntmps86; go_wp2
   go_ret
   exact ⟨_, rfl, Kd.R_nil _ _ _ _ _, Below.refl _ _⟩
  | some ad =>
   have e1 : ∀ w, (binOp BinOp.eql 52 (.slice (some ad) l0.length c0) (.slice none 0 0)).run Tryz.prog w = .ok (.bool false) w := fun w => by kernel_rfl
   have hB1 : Below w.heap.size w (w.alloc (.cells #[] 9)) := below_alloc (Below.refl _ _) _
   have hR1 : Kd.string.R 9 (w.alloc (.cells #[] 9)) w.heap.size (fun _ => True) (.slice (some ⟨w.heap.size, 0, none⟩) 0 0) [] :=
    Kd.R_of_own (h1 := fun _ => rfl) (by simpa [encs] using World.ownsRow_lit (base := w.heap.size) (e := 9) (size := 1) w #[] 0 (Nat.le_refl _) (by decide) (by simp)) (fun _ _ => trivial)
   have hC1 := Kd.C_below hr0 hB1; go_enter Tryz.func86, Tryz.ntmps86
   go_wp2_with ((with_reducible refine gate_builtin (b := .append) (xs := #[.tmp 5, .tmp 6]) rfl ?_); at_builtin; refine Kd.R_append_rows Kd.string (w0 := w) w.heap.size rfl (.tmp 5) (.tmp 6) 52 9 (.string ByteArray.empty) 16 rfl slices_Clone_string_string.under slices_Clone_string_string.info rfl (by decide) (by omega) _ [] l0 _ _ _ (fun _ => True) (fun _ => False) rfl rfl hR1 hC1 (fun _ _ h => h) (fun _ h => h.elim) (fun _ _ => trivial) hB1 (by simp) (by simpa using hl) ?_; intro v1 w1 ho hb hg hat)
   go_ret
   exact ⟨_, rfl, by simpa using ho, hb⟩
 ·rw [if_neg hl] at h; cases h

end Go.Proofs.YtehbkhddbdgbcaaGreatDoor.PChunkBack
