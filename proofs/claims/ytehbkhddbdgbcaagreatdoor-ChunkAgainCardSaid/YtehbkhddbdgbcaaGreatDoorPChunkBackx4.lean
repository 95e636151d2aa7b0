/- WRITTEN BY A PROGRAM of this session (wip/tool: a turned copy of the printer), out of the translation: Lean functions with the answers of the Go functions, and the proofs that the Go code comes to them. -/
import Derived.Test.YtehbkhddbdgbcaaGreatDoorPChunkBackx1
import Derived.Test.YtehbkhddbdgbcaaGreatDoorPChunkBackx2
import Derived.Test.YtehbkhddbdgbcaaGreatDoorPChunkBackx3
namespace Go.Proofs.YtehbkhddbdgbcaaGreatDoor.PChunkBack
open Go.RowKit Go.Proofs.YtehbkhddbdgbcaaGreatDoorW.PrintWords Go.Proofs.YtehbkhddbdgbcaaGreatDoorW.PrintLast Go.Proofs.YtehbkhddbdgbcaaGreatDoorW.PrintMore
attribute [local go_sem] max2_int min2_int max_two min_two max_three min_three max_four min_four   -- for this text's walks alone
set_option linter.unusedVariables false
set_option linter.unusedSimpArgs false

/-! ### num_Reader_Var: function 65 -/
def num_Reader_Var.f (k : Nat) (s0_0 : List Int) (s0_1 : Int) (s0_2 : Int) (s0_3 : Int) : Option (Int × Int × Int × Int) :=
 if s0_2 ≠ 0 then some (0, s0_1, s0_2, s0_3)
 else if 0 ≤ s0_1 ∧ s0_1 ≤ (s0_0.length : Int) then
  (num_short.f k (s0_0.drop s0_1.toNat)).bind fun t => (num_Reader_Fail.f s0_0 s0_1 s0_2 s0_3 t.2.2).bind fun u => some (t.1, wrap64 (u.1 + t.2.1), u.2.1, u.2.2)
 else none
set_option maxRecDepth 100000 in
set_option maxHeartbeats 8000000 in
theorem num_Reader_Var.calls (k : Nat) (g : Nat) (s0_0 : List Int) (s0_1 : Int) (s0_2 : Int) (s0_3 : Int) (r1 : Int) (r2 : Int) (r3 : Int) (r4 : Int) (w0 w : World) (hI : IsS73 w0 w g s0_0 s0_1 s0_2 s0_3) (hB : Below w0.heap.size w0 w) (h : num_Reader_Var.f k s0_0 s0_1 s0_2 s0_3 = some (r1, r2, r3, r4)) :
  Calls Tryz.prog 65 #[.pointer (some ⟨g, 0, none⟩)] w fun e w' => e = .returned (.int .u64 r1) ∧ IsS73 w0 w' g s0_0 r2 r3 r4 ∧ Below w0.heap.size w0 w' ∧ KeepBut w w' g none := by
 unfold num_Reader_Var.f at h; have hI0 := hI; obtain ⟨A1, c1, ev, hb, hc0, hc1, hc2, hfz, hr, hf⟩ := hI.open; have hg := hI.ge
 by_cases h0 : s0_2 ≠ 0
 ·rw [if_pos h0] at h; simp only [Option.some.injEq, Prod.mk.injEq] at h; obtain ⟨rfl, rfl, rfl, rfl⟩ := h; have d0 : decide (s0_2 = 0) = false := decide_eq_false h0; go_enter Tryz.func65, Tryz.ntmps65
  go_wp2_with (go_at_call 42; refine (num_Reader_ok.walk g _ _ _ _ w0 _ hI0).mono ?_; rintro e w' ⟨he, rfl⟩; rw [d0] at he; subst he)
  go_ret
  exact ⟨rfl, hI0, hB, KeepBut.refl _ _ _⟩
 rw [if_neg h0] at h
 by_cases hb0 : 0 ≤ s0_1 ∧ s0_1 ≤ (s0_0.length : Int)
 case neg => rw [if_neg hb0] at h; cases h
 rw [if_pos hb0] at h; obtain ⟨⟨t1, t2, t3⟩, ht, h⟩ := Option.bind_eq_some_iff.mp h; obtain ⟨⟨u1, u2, u3⟩, hu, h⟩ := Option.bind_eq_some_iff.mp h; simp only [Option.some.injEq, Prod.mk.injEq] at h; obtain ⟨rfl, rfl, rfl, rfl⟩ := h; obtain ⟨hb1, hb2⟩ := hb0
 have h0 : s0_2 = 0 := by simpa using h0
 have d0 : decide (s0_2 = 0) = true := decide_eq_true h0; obtain ⟨_, hcc, hC⟩ := Kd.R_reads' hr; have hmid := Kd.C_drop (m := s0_1.toNat) hC (by omega) hcc
 have hmid : (Kd.int .u8).C w (if c1 = s0_1.toNat then A1 else A1.map (fun x => x.add s0_1.toNat)) (s0_0.drop s0_1.toNat).length (s0_0.drop s0_1.toNat) := by simpa [Kd.int, Kd.scalar] using hmid
 have hst : s0_0.length - s0_1.toNat = (s0_0.drop s0_1.toNat).length := by rw [List.length_drop]
 have hle : (s0_0.drop s0_1.toNat).length ≤ c1 - s0_1.toNat := by omega
 have hl5 : s0_1 ≤ (c1 : Int) := by omega
 have hKC : (Kd.int .u8).C w.drew (if c1 = s0_1.toNat then A1 else A1.map (fun x => x.add s0_1.toNat)) (s0_0.drop s0_1.toNat).length (s0_0.drop s0_1.toNat) := Kd.C_below hmid (below_drew1 (Below.refl _ _))
 have hLK := fun (A0 : Option Addr) (c0 : Nat) (W : World) h1 h2 => num_short.calls k A0 c0 (s0_0.drop s0_1.toNat) t1 t2 t3 W h1 h2 ht
 generalize hL : s0_0.drop s0_1.toNat = l1 at *; clear hmid hL ht hC hr hf hb
 by_cases hcs : c1 = s0_1.toNat
 case' pos => rw [if_pos hcs] at hKC; subst hcs
 case' neg => rw [if_neg hcs] at hKC
 all_goals
  go_enter Tryz.func65, Tryz.ntmps65
  go_wp2_with (go_at_call 42; refine (num_Reader_ok.walk g _ _ _ _ w0 _ hI0).mono ?_; rintro e w' ⟨he, rfl⟩; rw [d0] at he; subst he)
  go_region_with (go_at_call 96; refine (hLK _ _ _ hKC (by omega)).mono ?_; rintro e w2 ⟨rfl, ⟨m, rfl⟩⟩)
  all_goals
   go_wp2_with (go_at_call 39; refine (num_Reader_Fail.calls g _ _ _ _ t3 u1 u2 u3 w0 _ (by repeat (first | exact hI0 | apply IsS73.drewN | apply IsS73.drew)) (by repeat (first | exact hB | apply pw_below_drewN | apply below_drew1)) hu).mono ?_; rintro e w3 ⟨rfl, hI3, hB3, hK3⟩; obtain ⟨A3, c3, ev3, hb3, hc30, hc31, hc32, hfz3, _, _⟩ := hI3.open)
   go_ret
   exact ⟨rfl, hI3.set_1 _, hB3.setCell (p := ⟨g, 1, none⟩) hg _, KeepBut.set_ (KeepBut.trans (by repeat (first | exact KeepBut.refl _ _ _ | apply keep_drewN | apply keep_drew)) hK3 (.inl rfl)) _ _⟩

/-! ### num_Zag: function 71 -/
def num_Zag.f (a0 : Int) : Option (Int) := some (Go.bits .xor .i64 (wrap64 (a0 / 2)) (wrap64 (-(wrap64 (Go.bits .and .u64 a0 1)))))
set_option maxHeartbeats 8000000 in
set_option maxRecDepth 100000 in
theorem num_Zag.calls (a0 : Int) (r : Int) (w : World) (h : num_Zag.f a0 = some r) :
  Calls Tryz.prog 71 #[.int .u64 a0] w fun e w' => e = .returned (.int .i64 r) ∧ Drawn0 w w' := by
 have H : (some (Go.bits .xor .i64 (wrap64 (a0 / 2)) (wrap64 (-(wrap64 (Go.bits .and .u64 a0 1)))))) = some r := h; clear h; obtain rfl := Option.some.inj H; go_enter Tryz.func71, Tryz.ntmps71; go_wp2
 go_ret
 exact ⟨EB, DR⟩

/-! ### num_Reader_Left: function 23 -/
set_option maxHeartbeats 4000000 in
theorem num_Reader_Left.walk (g : Nat) (s0_0 : List Int) (s0_1 : Int) (s0_2 : Int) (s0_3 : Int) (w0 w : World) (hI : IsS73 w0 w g s0_0 s0_1 s0_2 s0_3) :
  Calls Tryz.prog 23 #[.pointer (some ⟨g, 0, none⟩)] w fun e w' => e = .returned (.int .i64 (wrap64 ((s0_0.length : Int) - s0_1))) ∧ Drawn0 w w' := by
 obtain ⟨A, c, ev, hb, hc0, hc1, hc2, hfz, hr, hf⟩ := hI.open
 have e1 : ∀ w, (binOp BinOp.eql 45 (.pointer (some ⟨g, 0, none⟩)) (.pointer none)).run Tryz.prog w = .ok (.bool false) w := fun w => by kernel_rfl
 go_enter Tryz.func23, Tryz.ntmps23; go_wp2
 go_quiet (fail)
 go_wp2
 go_ret
 exact ⟨rfl, ⟨_, rfl⟩⟩
def num_Reader_Left.f (s0_0 : List Int) (s0_1 : Int) (s0_2 : Int) (s0_3 : Int) : Option (Int × Int × Int × Int) := some (wrap64 ((s0_0.length : Int) - s0_1), s0_1, s0_2, s0_3)
theorem num_Reader_Left.calls (g : Nat) (s0_0 : List Int) (s0_1 : Int) (s0_2 : Int) (s0_3 : Int) (r1 : Int) (r2 r3 r4 : Int) (w0 w : World) (hI : IsS73 w0 w g s0_0 s0_1 s0_2 s0_3) (hB : Below w0.heap.size w0 w) (h : num_Reader_Left.f s0_0 s0_1 s0_2 s0_3 = some (r1, r2, r3, r4)) :
  Calls Tryz.prog 23 #[.pointer (some ⟨g, 0, none⟩)] w fun e w' => e = .returned (.int .i64 r1) ∧ IsS73 w0 w' g s0_0 r2 r3 r4 ∧ Below w0.heap.size w0 w' ∧ KeepBut w w' g none := by
 simp only [num_Reader_Left.f, Option.some.injEq, Prod.mk.injEq] at h; obtain ⟨rfl, rfl, rfl, rfl⟩ := h; refine (num_Reader_Left.walk g s0_0 s0_1 s0_2 s0_3 w0 w hI).mono ?_; rintro e w' ⟨rfl, ⟨m, rfl⟩⟩; exact ⟨rfl, hI.drewN m, pw_below_drewN hB m, keep_drewN (KeepBut.refl _ _ _) m⟩

/-! ### num_Reader_End: function 72 -/
def num_Reader_End.f (s0_0 : List Int) (s0_1 : Int) (s0_2 : Int) (s0_3 : Int) : Option (Int × Int × Int × Int × Int) :=
 if s0_2 = 0 ∧ 0 < wrap64 ((s0_0.length : Int) - s0_1) then some (3, s0_1, s0_1, s0_2, s0_3) else some (s0_2, s0_3, s0_1, s0_2, s0_3)
set_option maxHeartbeats 8000000 in
theorem num_Reader_End.calls (g : Nat) (s0_0 : List Int) (s0_1 : Int) (s0_2 : Int) (s0_3 : Int) (r1 r2 : Int) (r3 r4 r5 : Int) (w0 w : World) (hI : IsS73 w0 w g s0_0 s0_1 s0_2 s0_3) (hB : Below w0.heap.size w0 w) (h : num_Reader_End.f s0_0 s0_1 s0_2 s0_3 = some (r1, r2, r3, r4, r5)) :
  Calls Tryz.prog 72 #[.pointer (some ⟨g, 0, none⟩)] w fun e w' => e = .returned (.tuple #[.int .i64 r1, .int .i64 r2]) ∧ IsS73 w0 w' g s0_0 r3 r4 r5 ∧ Below w0.heap.size w0 w' ∧ KeepBut w w' g none := by
 unfold num_Reader_End.f at h; have hE := num_Reader_Err.calls g s0_0 s0_1 s0_2 s0_3 s0_2 s0_3 s0_1 s0_2 s0_3 w0 w hI hB rfl
 by_cases h0 : s0_2 = 0
 ·have d0 : decide (s0_2 = 0) = true := decide_eq_true h0; have e0 : (s0_2 == 0) = true := beq_iff_eq.mpr h0
  by_cases h1 : 0 < wrap64 ((s0_0.length : Int) - s0_1)
  ·rw [if_pos ⟨h0, h1⟩] at h; simp only [Option.some.injEq, Prod.mk.injEq] at h; obtain ⟨rfl, rfl, rfl, rfl, rfl⟩ := h
   have hL := fun W (hW : IsS73 w0 W g s0_0 s0_1 s0_2 s0_3) => num_Reader_Left.walk g s0_0 s0_1 s0_2 s0_3 w0 W hW
   generalize wrap64 ((s0_0.length : Int) - s0_1) = lf at h1 hL; have d1 : decide (0 < lf) = true := decide_eq_true h1; go_enter Tryz.func72, Tryz.ntmps72
   go_wp2_with (first | (go_at_call 35; refine hE.mono ?_; rintro e w1 ⟨rfl, hI1, hB1, hK1⟩) | (go_at_call 23; refine (hL _ hI1).mono ?_; rintro e w2 ⟨rfl, ⟨m, rfl⟩⟩; obtain ⟨A1, c1, ev1, hbb, hc10, hc11, hc12, hfz1, _, _⟩ := hI1.open))
   repeat (go_quiet (fail); try go_wp2)
   go_ret2
   exact ⟨rfl, by repeat (first | exact hI1 | apply IsS73.drewN | apply IsS73.drew), by repeat (first | exact hB1 | apply pw_below_drewN | apply below_drew1), by repeat (first | exact hK1 | apply keep_drewN | apply keep_drew)⟩
  ·rw [if_neg (by simp [h1])] at h; subst h0
   have hL := fun W (hW : IsS73 w0 W g s0_0 s0_1 0 s0_3) => num_Reader_Left.walk g s0_0 s0_1 0 s0_3 w0 W hW
   generalize wrap64 ((s0_0.length : Int) - s0_1) = lf at h1 hL; have d1 : decide (0 < lf) = false := decide_eq_false h1; simp only [Option.some.injEq, Prod.mk.injEq] at h; obtain ⟨rfl, rfl, rfl, rfl, rfl⟩ := h; go_enter Tryz.func72, Tryz.ntmps72
   go_wp2_with (first | (go_at_call 35; refine hE.mono ?_; rintro e w1 ⟨rfl, hI1, hB1, hK1⟩) | (go_at_call 23; refine (hL _ hI1).mono ?_; rintro e w2 ⟨rfl, ⟨m, rfl⟩⟩))
   go_ret2
   exact ⟨rfl, by repeat (first | exact hI1 | apply IsS73.drewN | apply IsS73.drew), by repeat (first | exact hB1 | apply pw_below_drewN | apply below_drew1), by repeat (first | exact hK1 | apply keep_drewN | apply keep_drew)⟩
 ·rw [if_neg (by simp [h0])] at h; have d0 : decide (s0_2 = 0) = false := decide_eq_false h0; have e0 : (s0_2 == 0) = false := beq_eq_false_iff_ne.mpr h0; simp only [Option.some.injEq, Prod.mk.injEq] at h; obtain ⟨rfl, rfl, rfl, rfl, rfl⟩ := h; go_enter Tryz.func72, Tryz.ntmps72
  go_wp2_with (go_at_call 35; refine hE.mono ?_; rintro e w1 ⟨rfl, hI1, hB1, hK1⟩)
  go_ret2
  exact ⟨rfl, hI1, hB1, hK1⟩

/-! ### plain_Get: function 44 -/
mutual
def plain_Get.j0 : Nat → List Int → Int → Bool → Option (List Int × Int)
 | 0, _, _, _ => none
 | k + 1, x0, x1, x18 => if x18 = true then (some (([] : List Int), 1)) else ((num_NewReader.f x0).bind fun bt120 => (plain_Get.l0 k ([] : List Int) x1 0 bt120.1 bt120.2.1 bt120.2.2.1 bt120.2.2.2))
def plain_Get.l0 : Nat → List Int → Int → Int → List Int → Int → Int → Int → Option (List Int × Int)
 | 0, _, _, _, _, _, _, _ => none
 | k + 1, x7, x21, x22, x125000, x125001, x125002, x125003 => if x22 < x21 then ((num_Reader_Var.f k x125000 x125001 x125002 x125003).bind fun bt130 => ((num_Reader_Err.f x125000 bt130.2.1 bt130.2.2.1 bt130.2.2.2).bind fun bt134 => (if bt134.1 = 0 then ((num_Zag.f bt130.1).bind fun t139 => (if x7.length < 17592186044416 then (plain_Get.l0 k (x7 ++ [t139]) x21 (wrap64 (x22 + 1)) x125000 bt134.2.2.1 bt134.2.2.2.1 bt134.2.2.2.2) else (none))) else (some (([] : List Int), bt134.1))))) else ((num_Reader_End.f x125000 x125001 x125002 x125003).bind fun bt125 => (if bt125.1 = 0 then (some (x7, 0)) else (some (([] : List Int), bt125.1))))
end
def plain_Get.f (k : Nat) (l0 : List Int) (a1 : Int) : Option (List Int × Int) := if a1 < 0 then (plain_Get.j0 k l0 a1 true) else (plain_Get.j0 k l0 a1 (decide (a1 > 65536)))
set_option maxHeartbeats 8000000 in
set_option maxRecDepth 100000 in
theorem plain_Get.calls (k : Nat) (A0 : Option Addr) (c0 : Nat) (l0 : List Int) (a1 : Int) (r1 : List Int) (r2 : Int) (w : World) (hr0 : Kd.C (Kd.int .u8) w A0 l0.length l0) (hc0 : l0.length ≤ c0) (hG : HG w) (h : plain_Get.f k l0 a1 = some (r1, r2)) :
  Calls Tryz.prog 44 #[.slice A0 l0.length c0, .int .i64 a1] w fun e w' => ∃ v0_ : Value, e = .returned (.tuple #[v0_, .int .i64 r2]) ∧ Kd.R (Kd.int .i64) 2 w' w.heap.size (fun _ => True) v0_ r1 ∧ Below w.heap.size w w' := by
 have HR0 := Aside0.mk hr0; have HC0 := Aside0.mk hc0; clear hr0 hc0; have HB := Aside0.mk (Below.refl w.heap.size w); have H : (if a1 < 0 then (plain_Get.j0 k l0 a1 true) else (plain_Get.j0 k l0 a1 (decide (a1 > 65536)))) = some (r1, r2) := h; clear h; have HC3 := Aside0.mk H; clear H; go_enter Tryz.func44, Tryz.ntmps44
 go_upto_region 1 with (fail)
 go_cut [18] (fun v18 wc => ∃ (kq : Nat) (x18_2 : Bool), v18 = .bool x18_2 ∧ Aside0 (plain_Get.j0 kq l0 a1 x18_2 = some (r1, r2)) ∧ Aside0 (kq ≤ k) ∧ Aside0 (Below w.heap.size w wc))
 case first =>
  have H := HC3.out; clear HC3
  by_cases c4 : a1 < 0
  ·rw [if_pos c4] at H; have c4b0 := decide_eq_true c4; clear c4
   (first | rw [c4b0] | (simp only [i64_w, i32_w]; rw [c4b0]) | skip)
   have H' := Aside0.mk H; clear H; go_wp2; go_meet
   case rel => exact ⟨_, (true), EB, H', ⟨by first | omega | exact Nat.le_refl _⟩, ⟨BU HB.out⟩⟩
  ·rw [if_neg c4] at H; have c4b0 := decide_eq_false c4; clear c4
   (first | rw [c4b0] | (simp only [i64_w, i32_w]; rw [c4b0]) | skip)
   have H' := Aside0.mk H; clear H; go_wp2; go_meet
   case rel => exact ⟨_, (decide (a1 > 65536)), EB, H', ⟨by first | omega | exact Nat.le_refl _⟩, ⟨BU HB.out⟩⟩
 case rest =>
  clear HC3; (try clear p2); (try clear c4); (try clear c4b0); obtain ⟨kq, x18_2, rfl, HA, HJ2, HB⟩ := hcut
  cases kq with
  | zero => exact absurd HA.out (by simp [plain_Get.j0])
  | succ kj2 =>
   have H := HA.out; clear HA; simp only [plain_Get.j0] at H
   by_cases c5 : x18_2 = true
   ·subst c5
    have H1 : (some (([] : List Int), 1)) = some (r1, r2) := by rw [if_pos rfl] at H; exact H
    clear H; have H := H1; clear H1; simp only [Option.some.injEq, Prod.mk.injEq] at H; obtain ⟨rfl, rfl⟩ := H; go_wp2
    go_ret2
    exact ⟨_, ER, by first | exact Kd.R_nil _ _ _ _ _ | exact Kd.N_nil _ _ _ _ _ | exact Kd.V_nil _ _ _ _ _ | exact Kd.Q_nil _ _ _ _ _ | exact Kd.S_nil _ _ _ _ _, BU HB.out⟩
   ·replace c5 := Bool.eq_false_iff.mpr c5; subst c5
    have H1 : ((num_NewReader.f l0).bind fun bt120 => (plain_Get.l0 kj2 ([] : List Int) a1 0 bt120.1 bt120.2.1 bt120.2.2.1 bt120.2.2.2)) = some (r1, r2) := by rw [if_neg (show ¬ (false = true) by decide)] at H; exact H
    clear H; have H := H1; clear H1; replace H := Option.bind_eq_some_iff.mp H; obtain ⟨⟨t120, t121, t122, t123⟩, A60, H⟩ := H; (try dsimp only at H); have A6 := Aside0.mk A60; clear A60; have H' := Aside0.mk H; clear H
    go_wp2_with (first | (go_at_call 18; (with_reducible refine (num_NewReader.calls _ _ l0 t120 t121 t122 t123 w _ ?side1 ?side2 ?side3 hG A6.out).mono ?_); (case side1 => exact BU HB.out); (case side2 => exact CU ((Kd.C_below HR0.out HB.out))); (case side3 => exact HC0.out); rintro e w7 ⟨g124, rfl, hi, hb, hb2⟩; replace HB := Aside0.mk hb; have HI124 := Aside0.mk hi; clear hb hb2 hi))
    go_loopg [7, 22] kj2 (fun kq v7 v22 w' => ∃ (x7_2 : List Int) (x22_2 : Int) (x125001_2 : Int) (x125002_2 : Int) (x125003_2 : Int), v22 = .int .i64 x22_2 ∧ Aside0 (plain_Get.l0 kq x7_2 a1 x22_2 t120 x125001_2 x125002_2 x125003_2 = some (r1, r2)) ∧ Aside0 (kq ≤ kj2) ∧ Aside0 (Kd.R (Kd.int .i64) 2 w' w.heap.size (fun _ => True) v7 x7_2) ∧ Aside0 (IsS73 w w' g124 t120 x125001_2 x125002_2 x125003_2) ∧ Aside0 (Below w.heap.size w w'))
    case atStart => exact ⟨(([] : List Int)), (0), (t121), (t122), (t123), EB, H', ⟨Nat.le_refl _⟩, ⟨by first | exact Kd.R_nil _ _ _ _ _ | exact Kd.N_nil _ _ _ _ _ | exact Kd.V_nil _ _ _ _ _ | exact Kd.Q_nil _ _ _ _ _ | exact Kd.S_nil _ _ _ _ _⟩, ⟨IU73 HI124.out⟩, ⟨BV73 HI124.out HB.out⟩⟩
    case round =>
     clear H'; (try clear c1); (try clear p2); (try clear c4); (try clear c4b0); (try clear c5); (try clear p2); obtain ⟨x7_2, x22_2, x125001_2, x125002_2, x125003_2, rfl, HA, HK2, HO_7, HI124, HB⟩ := hrel
     cases gk with
     | zero => exact absurd HA.out (by simp [plain_Get.l0])
     | succ k2 =>
      have H := HA.out; clear HA; simp only [plain_Get.l0] at H
      by_cases c8 : x22_2 < a1
      ·rw [if_pos c8] at H; have c8b0 := decide_eq_true c8; clear c8; replace H := Option.bind_eq_some_iff.mp H; obtain ⟨⟨t130, t131, t132, t133⟩, A90, H⟩ := H; (try dsimp only at H); have A9 := Aside0.mk A90; clear A90; replace H := Option.bind_eq_some_iff.mp H; obtain ⟨⟨t134, t135, t136, t137, t138⟩, A100, H⟩ := H; (try dsimp only at H); have A10 := Aside0.mk A100; clear A100
       by_cases c11 : t134 = 0
       ·rw [if_pos c11] at H; have c11b0 : (t134 == 0) = true := beq_iff_eq.mpr c11; have c11b1 : (t134 != 0) = false := bne_eq_false_iff_eq.mpr c11; clear c11; replace H := Option.bind_eq_some_iff.mp H; obtain ⟨t139, A120, H⟩ := H; (try dsimp only at H); have A12 := Aside0.mk A120; clear A120
        by_cases c13 : x7_2.length < 17592186044416
        ·rw [if_pos c13] at H; have LMc13 := Aside0.mk c13; clear c13
         obtain ⟨y140, hy140⟩ : ∃ y_ : List Int, y_ = (x7_2 ++ [t139]) := ⟨_, rfl⟩
         replace H : (plain_Get.l0 k2 y140 a1 (wrap64 (x22_2 + 1)) t120 t136 t137 t138) = some (r1, r2) := HY hy140 H; have Ny140 := Aside0.mk hy140; clear hy140; have H' := Aside0.mk H; clear H
         go_wp2_with (first | (go_at_call 65; (with_reducible refine (num_Reader_Var.calls k2 g124 t120 x125001_2 x125002_2 x125003_2 t130 t131 t132 t133 w _ ?side1 ?side2 A9.out).mono ?_); (case side1 => exact IU73 HI124.out); (case side2 => exact BV73 HI124.out HB.out); rintro e w14 ⟨rfl, hi, hb, hk⟩; replace HO_7 := KR73 hk HI124 HO_7; replace HB := Aside0.mk hb; replace HI124 := Aside0.mk hi; clear hb hk hi) | (go_at_call 35; (with_reducible refine (num_Reader_Err.calls g124 t120 t131 t132 t133 t134 t135 t136 t137 t138 w _ ?side1 ?side2 A10.out).mono ?_); (case side1 => exact IU73 HI124.out); (case side2 => exact BV73 HI124.out HB.out); rintro e w15 ⟨rfl, hi, hb, hk⟩; replace HO_7 := KR73 hk HI124 HO_7; replace HB := Aside0.mk hb; replace HI124 := Aside0.mk hi; clear hb hk hi) | (go_at_call 71; (with_reducible refine (num_Zag.calls t130 t139 _ A12.out).mono ?_); rintro e w' ⟨rfl, ⟨nd, rfl⟩⟩) | ((with_reducible refine gate_builtin (b := .append) (xs := #[.tmp 34, .tmp 37]) rfl ?_); at_builtin; refine Kd.R_append (Kd.int .i64) (w0 := w) w.heap.size rfl (.tmp 34) (.tmp 37) 51 2 (.int .i64 0) 8 rfl Tryz.underlying51 info2 rfl (by decide) (by omega) u7 x7_2 t139 [.int .i64 t139] (fun _ => True) (fun _ => False) rfl rfl ?aP (fun _ hk => hk.elim) ?aF ?aO ?aB ?aS ?aL ?_; (case aP => exact rfl); (case aB => exact (BV73 HI124.out HB.out)); (case aF => exact (fun _ _ => trivial)); (case aO => exact (RU HO_7.out)); (case aS => exact (below_size (BV73 HI124.out HB.out))); (case aL => have := LMc13.out; omega); intro v141 w16 ho hb hg hat; rw [← Ny140.out] at ho; replace HI124 := Aside0.mk (IsS73.grown (IU73 HI124.out) hg (IsS73.own_ne HI124.out HO_7.out (by decide))); replace HB := Aside0.mk hb; have HO142 := Aside0.mk ho; clear HO_7; clear ho hb hg hat))
         go_roundg k2
         case measure => have := HJ2.out; have := HK2.out; omega
         case rel => exact ⟨(y140), (wrap64 (x22_2 + 1)), (t136), (t137), (t138), EB, H', ⟨by have := HJ2.out; have := HK2.out; omega⟩, ⟨RU HO142.out⟩, ⟨IU73 HI124.out⟩, ⟨BV73 HI124.out HB.out⟩⟩
        ·rw [if_neg c13] at H; exact absurd H (by simp)
       ·rw [if_neg c11] at H; have c11b0 : (t134 == 0) = false := beq_eq_false_iff_ne.mpr c11; have c11b1 : (t134 != 0) = true := bne_iff_ne.mpr c11; simp only [Option.some.injEq, Prod.mk.injEq] at H; obtain ⟨rfl, rfl⟩ := H
        go_wp2_with (first | (go_at_call 65; (with_reducible refine (num_Reader_Var.calls k2 g124 t120 x125001_2 x125002_2 x125003_2 t130 t131 t132 t133 w _ ?side1 ?side2 A9.out).mono ?_); (case side1 => exact IU73 HI124.out); (case side2 => exact BV73 HI124.out HB.out); rintro e w17 ⟨rfl, hi, hb, hk⟩; replace HO_7 := KR73 hk HI124 HO_7; replace HB := Aside0.mk hb; replace HI124 := Aside0.mk hi; clear hb hk hi) | (go_at_call 35; (with_reducible refine (num_Reader_Err.calls g124 t120 t131 t132 t133 t134 t135 t136 t137 t138 w _ ?side1 ?side2 A10.out).mono ?_); (case side1 => exact IU73 HI124.out); (case side2 => exact BV73 HI124.out HB.out); rintro e w18 ⟨rfl, hi, hb, hk⟩; replace HO_7 := KR73 hk HI124 HO_7; replace HB := Aside0.mk hb; replace HI124 := Aside0.mk hi; clear hb hk hi))
        go_ret2
        exact ⟨_, ER, by first | exact Kd.R_nil _ _ _ _ _ | exact Kd.N_nil _ _ _ _ _ | exact Kd.V_nil _ _ _ _ _ | exact Kd.Q_nil _ _ _ _ _ | exact Kd.S_nil _ _ _ _ _, BV73 HI124.out HB.out⟩
      ·rw [if_neg c8] at H; have c8b0 := decide_eq_false c8; clear c8; replace H := Option.bind_eq_some_iff.mp H; obtain ⟨⟨t125, t126, t127, t128, t129⟩, A190, H⟩ := H; (try dsimp only at H); have A19 := Aside0.mk A190; clear A190
       by_cases c20 : t125 = 0
       ·rw [if_pos c20] at H; have c20b0 : (t125 == 0) = true := beq_iff_eq.mpr c20; have c20b1 : (t125 != 0) = false := bne_eq_false_iff_eq.mpr c20; clear c20; simp only [Option.some.injEq, Prod.mk.injEq] at H; obtain ⟨rfl, rfl⟩ := H
        go_wp2_with (first | (go_at_call 72; (with_reducible refine (num_Reader_End.calls g124 t120 x125001_2 x125002_2 x125003_2 t125 t126 t127 t128 t129 w _ ?side1 ?side2 A19.out).mono ?_); (case side1 => exact IU73 HI124.out); (case side2 => exact BV73 HI124.out HB.out); rintro e w21 ⟨rfl, hi, hb, hk⟩; replace HO_7 := KR73 hk HI124 HO_7; replace HB := Aside0.mk hb; replace HI124 := Aside0.mk hi; clear hb hk hi))
        go_ret2
        exact ⟨_, ER, RU HO_7.out, BV73 HI124.out HB.out⟩
       ·rw [if_neg c20] at H; have c20b0 : (t125 == 0) = false := beq_eq_false_iff_ne.mpr c20; have c20b1 : (t125 != 0) = true := bne_iff_ne.mpr c20; simp only [Option.some.injEq, Prod.mk.injEq] at H; obtain ⟨rfl, rfl⟩ := H
        go_wp2_with (first | (go_at_call 72; (with_reducible refine (num_Reader_End.calls g124 t120 x125001_2 x125002_2 x125003_2 t125 t126 t127 t128 t129 w _ ?side1 ?side2 A19.out).mono ?_); (case side1 => exact IU73 HI124.out); (case side2 => exact BV73 HI124.out HB.out); rintro e w22 ⟨rfl, hi, hb, hk⟩; replace HO_7 := KR73 hk HI124 HO_7; replace HB := Aside0.mk hb; replace HI124 := Aside0.mk hi; clear hb hk hi))
        go_ret2
        exact ⟨_, ER, by first | exact Kd.R_nil _ _ _ _ _ | exact Kd.N_nil _ _ _ _ _ | exact Kd.V_nil _ _ _ _ _ | exact Kd.Q_nil _ _ _ _ _ | exact Kd.S_nil _ _ _ _ _, BV73 HI124.out HB.out⟩

/-! ### runs_each: function 73 -/
section
open Go.Shelf
attribute [local go_sem] Oper.semAt_some
/-- the runs of numbers: a number, and how often -/
def runsOf : List Int → List (Int × Nat)
 | [] => []
 | x :: l => match runsOf l with
  | [] => [(x, 1)]
  | (y, k) :: r => if x = y then (y, k + 1) :: r else (x, 1) :: (y, k) :: r
theorem runsOf_cons_ne (x y : Int) (l : List Int) (h : x ≠ y) : runsOf (x :: y :: l) = (x, 1) :: runsOf (y :: l) := by
 have hne : ∃ k r, runsOf (y :: l) = (y, k) :: r := by
  unfold runsOf
  split
  ·exact ⟨_, _, rfl⟩
  ·rename_i z k r he
   by_cases e : y = z
   ·rw [if_pos e]; subst e; exact ⟨_, _, rfl⟩
   ·rw [if_neg e]; exact ⟨_, _, rfl⟩
 obtain ⟨k, r, he⟩ := hne; rw [runsOf, he]; simp only [if_neg h]
/-- a run: what stands at its head, how long it is, what follows -/
theorem runsOf_run (x : Int) (l : List Int) (h : ∀ y r, l = y :: r → y ≠ x) : ∀ k : Nat, runsOf (List.replicate (k + 1) x ++ l) = (x, k + 1) :: runsOf l := by
 intro k
 induction k with
 | zero =>
  cases l with
  | nil => rfl
  | cons y r => exact runsOf_cons_ne x y r (fun e => h y r rfl e.symm)
 | succ k ih =>
  rw [List.replicate_succ, List.cons_append, runsOf, ih]; simp only [if_true]
theorem runsOf_at (zs : List Int) (a b : Nat) (hab : a < b) (hb : b ≤ zs.length) (hall : ∀ j, a ≤ j → j < b → zs[j]?.getD 0 = zs[a]?.getD 0) (hend : b < zs.length → zs[b]?.getD 0 ≠ zs[a]?.getD 0) :
  runsOf (zs.drop a) = (zs[a]?.getD 0, b - a) :: runsOf (zs.drop b) := by
 have e : zs.drop a = List.replicate (b - a - 1 + 1) (zs[a]?.getD 0) ++ zs.drop b := by
  apply List.ext_getElem
  ·simp; omega
  ·intro i h1 h2; simp only [List.getElem_drop]
   by_cases hi : i < b - a
   ·rw [List.getElem_append_left (by simp; omega), List.getElem_replicate]; have := hall (a + i) (by omega) (by omega); simp only [List.length_drop] at h1; rw [List.getElem?_eq_getElem (by omega)] at this; exact this
   ·rw [List.getElem_append_right (by simp; omega), List.getElem_drop]
    congr 1
    simp; omega
 have e2 : b - a - 1 + 1 = b - a := by omega
 rw [e, runsOf_run _ _ _, e2]; intro y r he hy
 have hlt : b < zs.length := by
  refine Classical.byContradiction fun hc => ?_
  rw [List.drop_of_length_le (by omega)] at he; cases he
 rw [List.drop_eq_getElem_cons hlt] at he; injection he with h1 _; refine hend hlt ?_; rw [List.getElem?_eq_getElem hlt]; show zs[b] = _; rw [h1, hy]
theorem runsOf_length : ∀ l : List Int, (runsOf l).length ≤ l.length := by
 intro l
 induction l with
 | nil => exact Nat.le_refl _
 | cons x l ih =>
  rw [runsOf]
  split
  ·simp
  ·rename_i y k r he
   rw [he] at ih
   by_cases h : x = y
   ·rw [if_pos h]; simp only [List.length_cons] at ih ⊢; omega
   ·rw [if_neg h]; simp only [List.length_cons] at ih ⊢; omega
theorem grown_drewN_ (W : World) (n : Nat) : W.grownBy (W.drewN n) none := ⟨rfl, rfl, rfl, Nat.le_refl _, fun _ _ _ => rfl⟩
/-- below n₀ no block but B₀ has turned -/
def Same (n₀ B₀ : Nat) (W W' : World) : Prop := ∀ k, k < n₀ → k ≠ B₀ → W'.heap[k]? = W.heap[k]?
theorem Same.refl (n₀ B₀ : Nat) (W : World) : Same n₀ B₀ W W := fun _ _ _ => rfl
theorem Same.trans {n₀ B₀ : Nat} {A B C : World} (h : Same n₀ B₀ A B) (k : Same n₀ B₀ B C) : Same n₀ B₀ A C := fun j h1 h2 => (k j h1 h2).trans (h j h1 h2)
theorem Same.drewN {n₀ B₀ : Nat} {A B : World} (h : Same n₀ B₀ A B) (m : Nat) : Same n₀ B₀ A (B.drewN m) := h
theorem Same.cell {n₀ B₀ : Nat} {A B : World} (h : Same n₀ B₀ A B) {b o : Nat} (hb : b < n₀ ∧ b ≠ B₀) : B.cell? ⟨b, o, none⟩ = A.cell? ⟨b, o, none⟩ := by
 unfold World.cell?; simp only [h b hb.1 hb.2]
/-- all from a on, below c, are as the one at a -/
def Likes (zs : List Int) (a c : Nat) : Prop := ∀ j, a ≤ j → j < c → zs[j]?.getD 0 = zs[a]?.getD 0
theorem likes_one (zs : List Int) (a : Nat) : Likes zs a (a + 1) := fun j h1 h2 => by
 have : j = a := by omega
 rw [this]
theorem likes_succ {zs : List Int} {a c : Nat} (h : Likes zs a c) (he : zs[c]?.getD 0 = zs[a]?.getD 0) : Likes zs a (c + 1) := fun j h1 h2 => by
 rcases Nat.lt_succ_iff_lt_or_eq.1 h2 with h3 | h3
 ·exact h j h1 h3
 ·rw [h3]; exact he
set_option maxRecDepth 100000 in
set_option maxHeartbeats 4000000 in
theorem each1_in (q : Int × Nat → Prop) (n : Nat) (hn : 1 ≤ n) (l Bs n₀ B₀ b off cap : Nat) (zs : List Int) (hq : ∀ y ∈ runsOf zs, q y) (hreach : zs.length * 8 ≤ 140737488351232) (hb : b < n₀ ∧ b ≠ B₀) (J Jx : List (Int × Nat) → World → Prop) (W : World) (hJ : AbidesFrom W.heap.size J)
  (hY : ∀ pre x W, q x → J pre W → pre.length < zs.length → YieldAt Fence.wide (n - 1) Tryz.prog l #[.int .i64 x.1, .int .i64 (x.2 : Int)] W fun e W' =>
   (e = .returned (.bool true) ∧ J (pre ++ [x]) W' ∧ Same n₀ B₀ W W') ∨ (e = .returned (.bool false) ∧ Jx (pre ++ [x]) W'))
  (hBs : (Bs < n₀ ∧ Bs ≠ B₀) ∧ W.cell? ⟨Bs, 0, none⟩ = some (.slice (some ⟨b, off, none⟩) zs.length cap)) (hc : ∀ j, j < zs.length → W.cell? ⟨b, off + j, none⟩ = some (.int .i64 (zs[j]?.getD 0))) (h0 : J [] W) :
  CallsIn Fence.wide n Tryz.prog 99 #[.func (.yield l) #[] #[], .pointer (some ⟨Bs, 0, none⟩)] W fun e W' => (∃ v, e = .returned v) ∧
   ((∃ ys, ys = runsOf zs ∧ J ys W') ∨ (∃ pre, pre <+: runsOf zs ∧ Jx pre W')) := by
 have hJd : ∀ pre W1 m, J pre W1 → J pre (W1.drewN m) := fun pre W1 m h => hJ pre _ _ none h (grown_drewN_ W1 m) (fun r e => by cases e)
 refine callsIn_of_wp Tryz.func99 rfl trivial ?_ rfl; simp only [Tryz.ntmps99, List.size_toArray, List.length_cons, List.length_nil, Nat.reduceAdd, Nat.reduceSub, Array.replicate_succ, Array.replicate_zero, List.push_toArray, List.append_toArray, List.nil_append, List.cons_append]
 gi_wp2
 gi_loopw [3] (fun i wr => ∃ (a : Nat) (pre : List (Int × Nat)), a ≤ zs.length ∧ i = .int .i64 a ∧ runsOf zs = pre ++ runsOf (zs.drop a) ∧ J pre wr ∧ Same n₀ B₀ W wr)
  (fun i _ => zs.length - (intOf i).toNat)
 case atStart => exact ⟨0, [], Nat.zero_le _, rfl, by simp, h0, Same.refl _ _ _⟩
 case round =>
  obtain ⟨a, pre, ha, rfl, hruns, hJs, hnx⟩ := hrel; have hBr : wr.cell? ⟨Bs, 0, none⟩ = some (.slice (some ⟨b, off, none⟩) zs.length cap) := (hnx.cell (b := Bs) (o := 0) hBs.1).trans hBs.2
  by_cases hlt : a < zs.length
  ·gi_wp2
   gi_loopw [4] (fun q wq => ∃ (c : Nat), a < c ∧ c ≤ zs.length ∧ q = .int .i64 c ∧ Likes zs a c ∧ J pre wq ∧ Same n₀ B₀ W wq)
    (fun q _ => zs.length - (intOf q).toNat)
   case atStart => exact ⟨a + 1, by omega, by omega, by simp, likes_one zs a, hJs, hnx⟩
   case round =>
    obtain ⟨c, hac, hcl, rfl, hall, hJq, hnq⟩ := hrel; have hBq : wr.cell? ⟨Bs, 0, none⟩ = some (.slice (some ⟨b, off, none⟩) zs.length cap) := (hnq.cell (b := Bs) (o := 0) hBs.1).trans hBs.2; have hca : wr.cell? ⟨b, off + a, none⟩ = some (.int .i64 (zs[a]?.getD 0)) := (hnq.cell (b := b) (o := off + a) hb).trans (hc a hlt)
    by_cases hcz : c < zs.length
    ·have hcc : wr.cell? ⟨b, off + c, none⟩ = some (.int .i64 (zs[c]?.getD 0)) := (hnq.cell (b := b) (o := off + c) hb).trans (hc c hcz)
     by_cases heq : zs[c] = zs[a]
     ·have heqb : (zs[c] == zs[a]) = true := by simp [heq]
      have hlk : Likes zs a (c + 1) := likes_succ hall (by rw [List.getElem?_eq_getElem hcz, List.getElem?_eq_getElem hlt]; exact heq); clear heq
      gi_wp2
      refine wpIn_wide.2 ?_
      go_quiet (fail)
      gi_wp2
      exact ⟨⟨c + 1, by omega, by omega, by simp, hlk, hJd _ _ _ hJq, hnq.drewN _⟩, by simp [intOf]; omega⟩
     ·have heqb : (zs[c] == zs[a]) = false := by simp [heq]
      have hrun := runsOf_at zs a c hac hcl hall (fun h => by rw [List.getElem?_eq_getElem hcz, List.getElem?_eq_getElem hlt]; exact heq); rw [List.getElem?_eq_getElem hlt] at hrun; have hrun : runsOf (zs.drop a) = (zs[a], c - a) :: runsOf (zs.drop c) := hrun
      have hpl : pre.length < zs.length := by
       have := runsOf_length zs; rw [hruns, hrun, List.length_append, List.length_cons] at this; omega
      clear heq
      gi_wp2
      refine wpIn_wide.2 ?_
      go_quiet (fail)
      obtain ⟨fn, tmps, assign, body, hy, hR⟩ := hY pre (zs[a], c - a) (wr.drewN nq) (hq _ (by rw [hruns, hrun]; simp)) (hJd _ _ _ hJq) hpl
      have ecast : ((c - a : Nat) : Int) = (c : Int) - (a : Int) := by omega
      dsimp only at hy; rw [ecast] at hy
      gi_wp2
      refine hR.mono ?_; rintro e W3 (⟨rfl, hJ3, hk3⟩ | ⟨rfl, hJx3⟩)
      ·gi_wp2
       go_roundw
       case rel => exact ⟨c, pre ++ [(zs[a], c - a)], by omega, rfl, by rw [List.append_assoc]; rw [hruns, hrun]; rfl, hJ3, (hnq.drewN _).trans hk3⟩
       case measure => simp [intOf]; omega
      ·gi_wp2
       refine bodyPost_ret (results_none rfl _ _ _) rfl ?_; exact ⟨⟨_, rfl⟩, .inr ⟨pre ++ [(zs[a], c - a)], ⟨_, by rw [hruns, hrun, List.append_assoc]; rfl⟩, hJx3⟩⟩
    ·obtain rfl : c = zs.length := by omega
     have hrun := runsOf_at zs a zs.length hac hcl hall (fun h => absurd h (by omega)); rw [List.getElem?_eq_getElem hlt] at hrun; have hrun : runsOf (zs.drop a) = (zs[a], zs.length - a) :: runsOf (zs.drop zs.length) := hrun
     have hpl : pre.length < zs.length := by
      have := runsOf_length zs; rw [hruns, hrun, List.length_append, List.length_cons] at this; omega
     clear hcz
     gi_wp2
     refine wpIn_wide.2 ?_
     go_quiet (fail)
     obtain ⟨fn, tmps, assign, body, hy, hR⟩ := hY pre (zs[a], zs.length - a) (wr.drewN nq) (hq _ (by rw [hruns, hrun]; simp)) (hJd _ _ _ hJq) hpl
     have ecast : ((zs.length - a : Nat) : Int) = (zs.length : Int) - (a : Int) := by omega
     dsimp only at hy; rw [ecast] at hy
     gi_wp2
     refine hR.mono ?_; rintro e W3 (⟨rfl, hJ3, hk3⟩ | ⟨rfl, hJx3⟩)
     ·gi_wp2
      go_roundw
      case rel => exact ⟨zs.length, pre ++ [(zs[a], zs.length - a)], by omega, rfl, by rw [List.append_assoc]; rw [hruns, hrun]; rfl, hJ3, (hnq.drewN _).trans hk3⟩
      case measure => simp [intOf]; omega
     ·gi_wp2
      refine bodyPost_ret (results_none rfl _ _ _) rfl ?_; exact ⟨⟨_, rfl⟩, .inr ⟨pre ++ [(zs[a], zs.length - a)], ⟨_, by rw [hruns, hrun, List.append_assoc]; rfl⟩, hJx3⟩⟩
  ·obtain rfl : a = zs.length := by omega
   gi_wp2
   go_end0
   exact ⟨⟨_, rfl⟩, .inl ⟨_, rfl, by rw [hruns, List.drop_length] at *; simpa [runsOf] using hJs⟩⟩
/-- THE SLICE VALUE sv HOLDS THE numbers zs, in a block below n₀; or it is nil and there are none. -/
def Ints (n₀ B₀ : Nat) (W : World) (sv : Value) (zs : List Int) : Prop :=
 (zs = [] ∧ ∃ A cap, sv = .slice A 0 cap) ∨ ∃ b off cap, sv = .slice (some ⟨b, off, none⟩) zs.length cap ∧ (b < n₀ ∧ b ≠ B₀) ∧ ∀ j, j < zs.length → W.cell? ⟨b, off + j, none⟩ = some (.int .i64 (zs[j]?.getD 0))
theorem Ints.same {n₀ B₀ : Nat} {A B : World} (h : Same n₀ B₀ A B) {sv : Value} {zs : List Int} : Ints n₀ B₀ A sv zs → Ints n₀ B₀ B sv zs
 | .inl e => .inl e
 | .inr ⟨b, off, cap, e, hb, hc⟩ => .inr ⟨b, off, cap, e, hb, fun j hj => (h.cell (b := b) (o := off + j) hb).trans (hc j hj)⟩
set_option maxRecDepth 100000 in
set_option maxHeartbeats 4000000 in
theorem each1_nil_in (n : Nat) (l Bs cap : Nat) (A : Option Addr) (J : List (Int × Nat) → World → Prop) (W : World) (hBs : W.cell? ⟨Bs, 0, none⟩ = some (.slice A 0 cap)) (h0 : J [] W) :
  CallsIn Fence.wide n Tryz.prog 99 #[.func (.yield l) #[] #[], .pointer (some ⟨Bs, 0, none⟩)] W fun e W' => (∃ v, e = .returned v) ∧ J [] W' := by
 refine callsIn_of_wp Tryz.func99 rfl trivial ?_ rfl; simp only [Tryz.ntmps99, List.size_toArray, List.length_cons, List.length_nil, Nat.reduceAdd, Nat.reduceSub, Array.replicate_succ, Array.replicate_zero, List.push_toArray, List.append_toArray, List.nil_append, List.cons_append]
 gi_wp2
 gi_loopw [3] (fun i wr => i = .int .i64 0 ∧ J [] wr ∧ wr.cell? ⟨Bs, 0, none⟩ = some (.slice A 0 cap)) (fun _ _ => 0)
 case atStart => exact ⟨rfl, h0, hBs⟩
 case round =>
  obtain ⟨rfl, hJs, hB⟩ := hrel
  gi_wp2
  go_end0
  exact ⟨⟨_, rfl⟩, hJs⟩
theorem each_in (n : Nat) (a : Option Addr) (len cap : Nat) (w : World) :
  CallsIn Fence.wide n Tryz.prog 73 #[.slice a len cap] w fun e w' => e = .returned (.func (.func 99) #[] #[.pointer (some ⟨w.heap.size, 0, none⟩)]) ∧ w' = w.alloc (.cells #[.slice a len cap] 51) := by
 refine callsIn_of_wp Tryz.func73 rfl trivial ?_ rfl; simp only [Tryz.ntmps73, List.size_toArray, List.length_cons, List.length_nil, Nat.reduceAdd, Nat.reduceSub, Array.replicate_succ, Array.replicate_zero, List.push_toArray, List.append_toArray, List.nil_append, List.cons_append]
 gi_wp2
 go_ret
 exact ⟨rfl, rfl⟩
theorem each_stops (q : Int × Nat → Prop) (n : Nat) (hn : 1 ≤ n) (Bs n₀ B₀ : Nat) (sv : Value) (zs : List Int) (hq : ∀ y ∈ runsOf zs, q y) (hreach : zs.length * 8 ≤ 140737488351232) (w : World) (hBs : Bs < w.heap.size) (hBn : Bs < n₀ ∧ Bs ≠ B₀) (hn₀ : n₀ ≤ w.heap.size)
  (hc : w.cell? ⟨Bs, 0, none⟩ = some sv) (hI : Ints n₀ B₀ w sv zs) :
  SeqStopsK Fence.wide n Tryz.prog 99 #[.pointer (some ⟨Bs, 0, none⟩)] (fun x : { x : Int × Nat // q x } => #[Value.int .i64 x.1.1, Value.int .i64 (x.1.2 : Int)]) (Same n₀ B₀) (fun ys => ys.map Subtype.val = runsOf zs) (fun pre => pre.map Subtype.val <+: runsOf zs) zs.length w := fun l J Jx W hW hJ _ hY h0 => by
 have hc' := (hW.cell (p := ⟨Bs, 0, none⟩) hBs).trans hc
 rcases hI.same (fun k hk _ => hW.block k (Nat.lt_of_lt_of_le hk hn₀)) with ⟨rfl, A, cap, rfl⟩ | ⟨b, off, cap, rfl, hb, hcs⟩
 ·exact (each1_nil_in n l Bs cap A (fun _ W' => J [] W') W hc' h0).mono fun e W' ⟨he, hj⟩ => ⟨he, .inl ⟨[], rfl, hj⟩⟩
 ·refine (each1_in q n hn l Bs n₀ B₀ b off cap zs hq hreach hb (fun pre W' => ∃ p : List { x : Int × Nat // q x }, p.map Subtype.val = pre ∧ J p W') (fun pre W' => ∃ p : List { x : Int × Nat // q x }, p.map Subtype.val = pre ∧ Jx p W') W
   (fun s A B row h hg hr => by obtain ⟨p, hp, hj⟩ := h; exact ⟨p, hp, hJ p A B row hj hg hr⟩) ?_ ⟨hBn, hc'⟩ hcs ⟨[], rfl, h0⟩).mono ?_
  ·intro pre x W1 hx hj hl; obtain ⟨p, hp, hj⟩ := hj; obtain ⟨fn, tmps, assign, body, hy, hR⟩ := hY p ⟨x, hx⟩ W1 hj (by rw [← hp, List.length_map] at hl; exact hl); refine ⟨fn, tmps, assign, body, hy, hR.mono ?_⟩; rintro e W' (⟨h1, h2, h3⟩ | ⟨h1, h2⟩)
   ·exact .inl ⟨h1, ⟨_, by rw [List.map_append, hp]; rfl, h2⟩, h3⟩
   ·exact .inr ⟨h1, ⟨_, by rw [List.map_append, hp]; rfl, h2⟩⟩
  ·rintro e W' ⟨he, ⟨ys, rfl, p, hp, hj⟩ | ⟨pre, hpre, p, hp, hj⟩⟩
   ·exact ⟨he, .inl ⟨p, hp, hj⟩⟩
   ·exact ⟨he, .inr ⟨p, (show p.map Subtype.val <+: runsOf zs by rw [hp]; exact hpre), hj⟩⟩
theorem rd_zs (zs : List Int) (j : Nat) : rd zs (j : Int) = zs[j]?.getD 0 := by simp [rd, List.getD]
theorem Ints.of_C {w : World} {A : Option Addr} {c : Nat} {zs : List Int} (h : (Kd.int .i64).C w A zs.length zs) (n₀ : Nat) (hn : w.heap.size ≤ n₀) : Ints n₀ n₀ w (.slice A zs.length c) zs := by
 by_cases hz : zs = []
 ·subst hz; exact .inl ⟨rfl, _, _, rfl⟩
 ·have hp : 0 < zs.length := List.length_pos_iff.2 hz; obtain ⟨ad, rfl, h0⟩ := Kd.at_int h 0 (by omega) (by omega); have hb := Go.block_lt_of_cell h0
  have had : ad = ⟨ad.block, ad.off, none⟩ := by
   cases ad with
   | mk b o s =>
    cases s with
    | none => rfl
    | some s => exact absurd h0 (by unfold World.cell? Addr.add; simp; split <;> simp)
  have hbk : ad.block < w.heap.size := by
   have : (ad.add (0 : Int).toNat).block = ad.block := by unfold Addr.add; split <;> rfl
   rw [this] at hb; exact hb
  refine .inr ⟨ad.block, ad.off, c, by rw [← had], ⟨by omega, by omega⟩, fun j hj => ?_⟩; obtain ⟨ad', e, hj'⟩ := Kd.at_int h (j : Int) (by omega) (by omega)
  cases e
  rw [had] at hj'
  have e2 : (⟨ad.block, ad.off, none⟩ : Addr).add ((j : Int).toNat) = ⟨ad.block, ad.off + j, none⟩ := by
   unfold Addr.add; split
   ·rename_i h0; simp at h0; subst h0; rfl
   ·simp
  rw [e2, rd_zs] at hj'; exact hj'
end

/-! ### runs_Put: function 45 -/
/-! words of this session: plain facts on numbers and lists -/
theorem w64 {n : Int} (h0 : -9223372036854775808 ≤ n) (h1 : n ≤ 9223372036854775807) : wrap64 n = n := by unfold wrap64; omega
theorem u64w (n : Int) : IntKind.u64.wrap n = n % 18446744073709551616 := by simp [IntKind.wrap, IntKind.bits, IntKind.signed]
theorem u64w_id {n : Int} (h0 : 0 ≤ n) (h1 : n < 18446744073709551616) : IntKind.u64.wrap n = n := by rw [u64w]; omega
theorem rd_nat (xs : List Int) (i : Nat) : rd xs (i : Int) = xs.getD i 0 := by simp [rd]
theorem rd_get {xs : List Int} {i : Nat} (h : i < xs.length) : rd xs (i : Int) = xs[i] := by simp [rd, h]
theorem dropc {α : Type} (l : List α) (i : Nat) (h : i < l.length) : l.drop i = l[i] :: l.drop (i + 1) := List.drop_eq_getElem_cons h

/-! the short number of a number, and what puts it -/
def leb (v : Nat) : List Int := if h : v < 128 then [(v : Int)] else ((v % 128 + 128 : Nat) : Int) :: leb (v / 128)
theorem leb_small {v : Nat} (h : v < 128) : leb v = [(v : Int)] := by rw [leb, dif_pos h]
theorem leb_big {v : Nat} (h : ¬ v < 128) : leb v = ((v % 128 + 128 : Nat) : Int) :: leb (v / 128) := by rw [leb, dif_neg h]
theorem leb_length : ∀ (n v : Nat), v < 128 ^ (n + 1) → (leb v).length ≤ n + 1 := by
 intro n
 induction n with
 | zero => intro v h; rw [leb_small (by simpa using h)]; simp
 | succ n ih =>
  intro v h
  by_cases hv : v < 128
  ·rw [leb_small hv]; simp
  ·rw [leb_big hv, List.length_cons]; have := ih (v / 128) (by rw [Nat.div_lt_iff_lt_mul (by decide)]; rw [Nat.pow_succ] at h; omega); omega
theorem p128 : (18446744073709551616 : Nat) < 128 ^ (9 + 1) := by decide
theorem leb_length10 {v : Nat} (h : v < 18446744073709551616) : (leb v).length ≤ 10 := leb_length 9 v (Nat.lt_trans h p128)

theorem putvar_l0 : ∀ (n k v : Nat) (b : List Int), v < 128 ^ (n + 1) → n < k → b.length + n < 140737488355328 → num_PutVar.l0 k b v = some (b ++ leb v) := by
 intro n
 induction n with
 | zero =>
  intro k v b hv hk hb
  obtain ⟨k, rfl⟩ : ∃ m, k = m + 1 := ⟨k - 1, by omega⟩
  simp only [num_PutVar.l0]; rw [if_neg (by omega), if_pos (by omega), leb_small (by omega)]; rw [Int.emod_eq_of_lt (by omega) (by omega)]
 | succ n ih =>
  intro k v b hv hk hb
  obtain ⟨k, rfl⟩ : ∃ m, k = m + 1 := ⟨k - 1, by omega⟩
  simp only [num_PutVar.l0]
  by_cases h : v < 128
  ·rw [if_neg (by omega), if_pos (by omega), leb_small h, Int.emod_eq_of_lt (by omega) (by omega)]
  ·rw [if_pos (by omega), if_pos (by omega), Lib.u8_or128_any _ (by omega) (by omega), leb_big h]
   have e : (v : Int) / 128 = ((v / 128 : Nat) : Int) := by omega
   rw [e, ih k (v / 128) _ (by rw [Nat.div_lt_iff_lt_mul (by decide)]; rw [Nat.pow_succ] at hv; omega) (by omega) (by simp; omega)]
   have e2 : (v : Int) % 256 % 128 + 128 = ((v % 128 + 128 : Nat) : Int) := by omega
   rw [e2]; simp
theorem putvar_f {v : Int} {b : List Int} {k : Nat} (h0 : 0 ≤ v) (h1 : v < 18446744073709551616) (hk : 10 ≤ k) (hb : b.length < 140737488000000) : num_PutVar.f k b v = some (b ++ leb v.toNat) := by
 obtain ⟨n, rfl⟩ := Int.eq_ofNat_of_zero_le h0; unfold num_PutVar.f; exact putvar_l0 9 k n b (Nat.lt_trans (by omega) p128) (by omega) (by omega)

/-! num.Zig -/
def zz (x : Int) : Int := if 0 ≤ x then 2 * x else -2 * x - 1
theorem zz_range {x : Int} (h0 : -9223372036854775808 ≤ x) (h1 : x ≤ 9223372036854775807) : 0 ≤ zz x ∧ zz x < 18446744073709551616 := by
 unfold zz; split <;> omega
theorem zig_f {x : Int} (h0 : -9223372036854775808 ≤ x) (h1 : x ≤ 9223372036854775807) : num_Zig.f x = some (zz x) := by
 unfold num_Zig.f zz
 by_cases h : 0 ≤ x
 ·rw [if_pos h]
  have e1 : IntKind.u64.wrap (IntKind.u64.wrap x * 2) = (((2 * x).toNat : Nat) : Int) := by rw [u64w, u64w]; omega
  have e2 : IntKind.u64.wrap (x / 9223372036854775808) = ((0 : Nat) : Int) := by rw [u64w]; omega
  rw [e1, e2, bits_xor_u64_nat _ _ (by omega) (by omega), Nat.xor_zero]
  congr 1; omega
 ·rw [if_neg h]
  have e1 : IntKind.u64.wrap (IntKind.u64.wrap x * 2) = (((2 * x + 18446744073709551616).toNat : Nat) : Int) := by rw [u64w, u64w]; omega
  have e2 : IntKind.u64.wrap (x / 9223372036854775808) = ((2 ^ 64 - 1 : Nat) : Int) := by rw [u64w]; omega
  rw [e1, e2, bits_xor_u64_nat _ _ (by omega) (by decide), Nat.xor_comm, Lib.xor_ones64 _ (by omega)]
  congr 1; omega

section
open Go.Shelf
attribute [local go_sem] Oper.semAt_some
def runForm (r : List (Int × Nat)) : List Int := r.flatMap fun x => leb (x.2 - 1) ++ leb (zz x.1).toNat
theorem runForm_snoc (r : List (Int × Nat)) (x : Int × Nat) : runForm (r ++ [x]) = runForm r ++ leb (x.2 - 1) ++ leb (zz x.1).toNat := by simp [runForm]
abbrev RunX := { x : Int × Nat // (-9223372036854775808 ≤ x.1 ∧ x.1 ≤ 9223372036854775807) ∧ 1 ≤ x.2 ∧ x.2 ≤ 65536 }
def runFormX (r : List RunX) : List Int := runForm (r.map Subtype.val)
theorem runFormX_snoc (r : List RunX) (x : RunX) : runFormX (r ++ [x]) = runFormX r ++ leb (x.1.2 - 1) ++ leb (zz x.1.1).toNat := by
 unfold runFormX; rw [List.map_append, List.map_cons, List.map_nil, runForm_snoc]
theorem runFormX_length (r : List RunX) : (runFormX r).length ≤ 20 * r.length := by
 induction r with
 | nil => exact Nat.zero_le _
 | cons x r ih =>
  have h1 := leb_length10 (v := x.1.2 - 1) (by have := x.2.2; omega); have hz := zz_range x.2.1.1 x.2.1.2; have h2 := leb_length10 (v := (zz x.1.1).toNat) (by omega)
  have e : runFormX (x :: r) = leb (x.1.2 - 1) ++ leb (zz x.1.1).toNat ++ runFormX r := by simp [runFormX, runForm]
  rw [e, List.length_append, List.length_append, List.length_cons]; omega
theorem runsOf_ok : ∀ l : List Int, (∀ x ∈ l, -9223372036854775808 ≤ x ∧ x ≤ 9223372036854775807) → ∀ y ∈ runsOf l, (-9223372036854775808 ≤ y.1 ∧ y.1 ≤ 9223372036854775807) ∧ 1 ≤ y.2 ∧ y.2 ≤ l.length := by
 intro l
 induction l with
 | nil => intro _ y hy; simp [runsOf] at hy
 | cons x l ih =>
  intro h y hy; have hx := h x (by simp); have ih' := ih (fun z hz => h z (by simp [hz])); rw [runsOf] at hy
  split at hy
  ·simp at hy; subst hy; exact ⟨hx, by simp⟩
  ·rename_i z k r he
   rw [he] at ih'; have hz := ih' (z, k) (by simp)
   by_cases e : x = z
   ·rw [if_pos e] at hy
    rcases List.mem_cons.1 hy with rfl | hy
    ·exact ⟨hz.1, by simp only [List.length_cons]; have := hz.2; simp at this ⊢; omega⟩
    ·have := ih' y (by simp [hy]); exact ⟨this.1, this.2.1, by simp only [List.length_cons]; omega⟩
   ·rw [if_neg e] at hy
    rcases List.mem_cons.1 hy with rfl | hy
    ·exact ⟨hx, by simp⟩
    ·have := ih' y hy; exact ⟨this.1, this.2.1, by simp only [List.length_cons]; omega⟩
theorem cell_of_box_lp {W : World} {B : Nat} {v : Value} {t : TypeId} (h : W.heap[B]? = some (.cells #[v] t (0, 0))) : W.cell? ⟨B, 0, none⟩ = some v ∧ W.frozen? ⟨B, 0, none⟩ = false := by
 constructor <;> simp [World.cell?, World.frozen?, h]
theorem cell_new_lp (W : World) (v : Value) (t : TypeId) : (W.alloc (.cells #[v] t)).cell? ⟨W.heap.size, 0, none⟩ = some v ∧ (W.alloc (.cells #[v] t)).frozen? ⟨W.heap.size, 0, none⟩ = false :=
 cell_of_box_lp (World.alloc_heap_new W _)
theorem same_putObjp (W : World) (l k : Nat) (o' : Obj) (h : k ≠ l) : (W.putObj l o').heap[k]? = W.heap[k]? := by
 unfold World.putObj; simp [Array.getElem?_setIfInBounds]; intro e; exact absurd e.symm h
theorem sub1 (n : Nat) (h1 : 1 ≤ n) (h2 : n ≤ 65536) : IntKind.u64.wrap ((n : Int) - 1) = ((n - 1 : Nat) : Int) := by rw [u64w_id (by omega) (by omega)]; omega
theorem R_raise {w : World} {base : Nat} {v : Value} {xs : List Int} {ok : Nat → Prop} (h : Kd.R (Kd.int .u8) 5 w base ok v xs) : w.ownsRow base 5 1 v xs.length (nums .u8 xs) ∧ ∀ k, v.ownBlock = some k → ok k := by
 refine ⟨Kd.own_of_R h, ?_⟩; exact h.1
theorem put_same {w W w1 w2 : World} {v : Value} {mz : Nat} (hok : ∀ k, v.ownBlock = some k → w.heap.size + 2 ≤ k) (hsz : w.heap.size + 1 < W.heap.size) (hK1 : Kept W w1 (fun k => some k = v.ownBlock)) (hK2 : Kept (w1.drewN mz) w2 (fun k => some k = v.ownBlock ∨ W.heap.size ≤ k)) :
  ∀ k, k < W.heap.size → some k ≠ v.ownBlock → w2.heap[k]? = W.heap[k]? := fun k hk hne =>
 (hK2.2 k (Nat.lt_of_lt_of_le hk hK1.1) (fun h => h.elim hne (fun h => absurd h (Nat.not_le.2 hk)))).trans (hK1.2 k hk hne)
set_option maxRecDepth 100000 in
set_option maxHeartbeats 4000000 in
theorem put_in (n : Nat) (hn : 3 ≤ n) (a : Option Addr) (cap : Nat) (zs : List Int) (hle : zs.length ≤ 65536) (hw : ∀ x ∈ zs, -9223372036854775808 ≤ x ∧ x ≤ 9223372036854775807) (w : World) (hI : Ints w.heap.size w.heap.size w (.slice a zs.length cap) zs) :
  CallsIn Fence.wide n Tryz.prog 45 #[.slice a zs.length cap] w fun e w' => ∃ v0_ : Value, e = .returned (.tuple #[v0_, .int .i64 0]) ∧ Kd.R (Kd.int .u8) 5 w' w.heap.size (fun _ => True) v0_ (runForm (runsOf zs)) ∧ Below w.heap.size w w' := by
 have h1 : 1 ≤ n := by omega
 refine callsIn_of_wp_marks Tryz.func45 rfl trivial ?_ rfl; simp only [Tryz.ntmps45, List.size_toArray, List.length_cons, List.length_nil, Nat.reduceAdd, Nat.reduceSub, Array.replicate_succ, Array.replicate_zero, List.push_toArray, List.append_toArray, List.nil_append, List.cons_append]; have hgt : decide ((65536 : Int) < (zs.length : Int)) = false := decide_eq_false (by omega)
 gi_wp2_with (refine ⟨trivial, ?_⟩; gi_at_call 73; refine (each_in (n - 1) _ _ _ _).mono ?_; rintro e w' ⟨rfl, rfl⟩)
 have hs := cell_new_lp w (.slice none 0 0) 25; have hb := cell_new_lp (w.alloc (.cells #[.slice none 0 0] 25)) (.slice a zs.length cap) 51; rw [World.size_alloc] at hb; have hB0 : Below w.heap.size w ((w.alloc (.cells #[.slice none 0 0] 25)).alloc (.cells #[.slice a zs.length cap] 51)) := ((Below.refl _ w).alloc (Nat.le_refl _) _).alloc (by simp) _
 have hI2 : Ints (w.heap.size + 2) w.heap.size ((w.alloc (.cells #[.slice none 0 0] 25)).alloc (.cells #[.slice a zs.length cap] 51)) (.slice a zs.length cap) zs := by
  rcases hI with ⟨e, h⟩ | ⟨b, off, cap', e, hbl, hc⟩
  ·exact .inl ⟨e, h⟩
  ·exact .inr ⟨b, off, cap', e, ⟨by omega, by omega⟩, fun j hj => (hB0.cell (p := ⟨b, off + j, none⟩) hbl.1).trans (hc j hj)⟩
 have hbox0 : Boxed ((w.alloc (.cells #[.slice none 0 0] 25)).alloc (.cells #[.slice a zs.length cap] 51)) w.heap.size 25 (.slice none 0 0) := (Boxed.new w 25 _).alloc _
 refine wpIn_rangeFunc_ownF rfl h1 (gf := 99) (lb := #[.pointer (some ⟨w.heap.size + 1, 0, none⟩)]) rfl trivial (enters_of Tryz.func99 (by kernel_rfl) rfl)
  (each_stops (fun x => (-9223372036854775808 ≤ x.1 ∧ x.1 ≤ 9223372036854775807) ∧ 1 ≤ x.2 ∧ x.2 ≤ 65536) (n - 1) (by omega) (w.heap.size + 1) (w.heap.size + 2) w.heap.size (.slice a zs.length cap) zs
   (fun y hy => by obtain ⟨h1, h2, h3⟩ := runsOf_ok zs hw y hy; exact ⟨h1, h2, Nat.le_trans h3 hle⟩) (by omega) _ (by simp) ⟨by omega, by omega⟩ (by simp) hb.1 hI2) (fun h k => h.trans k)
  (fun W l o o' hl _ _ _ k hk _ => by simp at hl; exact same_putObjp W l k o' (by omega)) (Below.refl _ _) (fun _ => rfl)
  (fun (pre : List RunX) W => (∃ v, Boxed W w.heap.size 25 v ∧ W.ownsRow w.heap.size 5 1 v (runFormX pre).length (nums .u8 (runFormX pre)) ∧ (∀ k, v.ownBlock = some k → w.heap.size + 2 ≤ k)) ∧ (W.cell? ⟨w.heap.size + 1, 0, none⟩ = some (.slice a zs.length cap) ∧ Below w.heap.size w W))
  (fun _ _ _ => False)
  (OwnFrom.and (Own.from (holdsRow_own w.heap.size w.heap.size 25 5 1 (fun pre => (runFormX pre).length) (fun pre => nums .u8 (runFormX pre)) (fun _ v => ∀ k, v.ownBlock = some k → w.heap.size + 2 ≤ k)) _) (OwnFrom.and (Own.from (fun s A B row hs hg hr => Go.cell_kept hs hg hr) _) (ownFrom_below (Nat.le_refl _) (by simp; omega))))
  (fun _ _ _ _ _ hs _ _ => hs)
  ⟨⟨_, hbox0, own_nil _ _ _ _, by simp [Value.ownBlock]⟩, hb.1, hB0⟩
  (fun x => { tmps := #[.slice a zs.length cap, undef, .slice none 0 0, .int .i64 0, .pointer (some ⟨w.heap.size, 0, none⟩), .int .i64 x.1.1, .int .i64 (x.1.2 : Int), .slice a zs.length cap, .int .i64 (zs.length : Int), .bool (decide (65536 < (zs.length : Int))), .slice a zs.length cap, .func (.func 99) #[] #[.pointer (some ⟨w.heap.size + 1, 0, none⟩)], .int .i64 x.1.1, .int .i64 (x.1.2 : Int), undef, undef, undef, undef, undef, undef, undef, undef, undef], defers := [] }) ?assign ?body ?done ?stop
 case assign =>
  intro l x W K hK
  gi_wp2
  simpa [hgt] using hK
 case body =>
  rintro l pre x W ⟨⟨v, hbx, hrow, hok⟩, hc1, hB⟩ hpl; have hbc := hbx.cell; have hbf := hbx.frozen; have hxw := sub1 x.1.2 x.2.2.1 x.2.2.2; have hsz : w.heap.size + 1 < W.heap.size := Go.block_lt_of_cell hc1; have hfl := runFormX_length pre; have hz := zz_range x.2.1.1 x.2.1.2; have hzig := zig_f x.2.1.1 x.2.1.2
  have hp1 : num_PutVar.f 10 (runFormX pre) ((x.1.2 - 1 : Nat) : Int) = some (runFormX pre ++ leb (x.1.2 - 1)) := by
   have := putvar_f (v := ((x.1.2 - 1 : Nat) : Int)) (b := runFormX pre) (k := 10) (by omega) (by have := x.2.2.2; omega) (by omega) (by omega); rw [Int.toNat_natCast] at this; exact this
  have h10 := leb_length10 (v := x.1.2 - 1) (by have := x.2.2.2; omega)
  have hp2 : num_PutVar.f 10 (runFormX pre ++ leb (x.1.2 - 1)) (zz x.1.1) = some (runFormX (pre ++ [x])) := by
   rw [putvar_f hz.1 hz.2 (by omega) (by rw [List.length_append]; omega), runFormX_snoc]
  have hR0 : Kd.R (Kd.int .u8) 5 W w.heap.size (fun k => some k = v.ownBlock) v (runFormX pre) := Kd.R_of_own (h1 := fun _ => rfl) hrow (fun k hk => hk.symm); have hlt := Kd.R_lt hR0; have Hz := Lib.hid hzig; have H1 := Lib.hid hp1; have H2 := Lib.hid hp2; clear hzig hp1 hp2
  gi_wp2_with ((refine ⟨trivial, fun _ => by omega, ?_⟩; gi_at_call 59; refine (CallsIn.inRound l (callsIn_wide.2 (num_PutVar.calls 10 _ v (runFormX pre) _ _ w W hB hR0 H1.out))).mono ?_; clear H1; rintro e w1 ⟨v1, rfl, hR1, hB1, hK1⟩))
  gi_wp2_with ((refine ⟨trivial, fun _ => by omega, ?_⟩; gi_at_call 70; refine (CallsIn.inRound l (callsIn_wide.2 (num_Zig.calls _ _ _ Hz.out))).mono ?_; rintro e wz ⟨rfl, ⟨mz, rfl⟩⟩))
  gi_wp2_with ((refine ⟨trivial, fun _ => by omega, ?_⟩; gi_at_call 59; refine (CallsIn.inRound l (callsIn_wide.2 (num_PutVar.calls 10 _ v1 (runFormX pre ++ leb (x.1.2 - 1)) _ _ w (w1.drewN mz) (pw_below_drewN hB1 mz) (Kd.R_drewN hR1 mz) H2.out))).mono ?_; clear H2; rintro e w2 ⟨v2, rfl, hR2, hB2, hK2⟩; obtain ⟨A2, c2, rfl⟩ := Kd.R_slice hR2; have hsame := put_same hok hsz hK1 hK2; have hbx2 : w2.heap[w.heap.size]? = some (.cells #[v] 25 (0, 0)) := (hsame w.heap.size (by omega) (fun e => by have := hok _ e.symm; omega)).trans hbx; have hbc2 := (cell_of_box_lp hbx2).1; have hbf2 := (cell_of_box_lp hbx2).2))
  have hty := Kd.R_typed hR0; have hle2 : W.heap.size ≤ w2.heap.size := Nat.le_trans hK1.1 hK2.1
  have hSame : Same (w.heap.size + 2) w.heap.size W (w2.setCell ⟨w.heap.size, 0, none⟩ (.slice A2 (runFormX (pre ++ [x])).length c2)) := fun k hk hne =>
   (Below.heap_setCell w2 _ _ k hne).trans (hsame k (by omega) (fun e => by have := hok _ e.symm; omega))
  have hokk : ∀ k, ((some k = v.ownBlock ∨ W.heap.size ≤ k) ∨ (w1.drewN mz).heap.size ≤ k) → w.heap.size + 2 ≤ k := fun k hk => by
   rcases hk with (h | h) | h
   ·exact hok _ h.symm
   ·omega
   ·exact Nat.le_trans hsz (Nat.le_trans (show W.heap.size ≤ (w1.drewN mz).heap.size from hK1.1) h)
  have hR3 := Kd.R_far (p := ⟨w.heap.size, 0, none⟩) hR2 (fun k hk (e : k = w.heap.size) => absurd (hokk k hk) (by rw [e]; omega)) (.slice A2 (runFormX (pre ++ [x])).length c2); obtain ⟨ho3, hk3⟩ := R_raise hR3; refine ⟨⟨Nat.le_trans hle2 (by simp), fun k o hk ho => ?_⟩, hSame, ⟨_, ?_, ho3, fun k hk => ?_⟩, (hSame.cell ⟨by omega, by omega⟩).trans hc1, hB2.setCell (p := ⟨w.heap.size, 0, none⟩) (Nat.le_refl _) _⟩
  ·have hlk : k < W.heap.size := (Array.getElem?_eq_some_iff.1 hk).1
   have hne : k ≠ w.heap.size := fun e => by rw [e, show W.heap[w.heap.size]? = _ from hbx] at hk; cases hk; cases ho
   rw [Below.heap_setCell w2 _ _ k hne, hsame k hlk (fun e => by obtain ⟨cs, hcs⟩ := hty k e.symm; rw [hcs] at hk; cases hk; cases ho)]; exact hk
  ·exact (blk_set hbx2 0 _).trans (by rfl)
  ·exact hokk _ (hk3 k hk)
 case done =>
  rintro D ys W hD hys ⟨⟨v, hbx, hrow, hok⟩, hc1, hB⟩ hK; have hbc := hbx.cell
  gi_wp2
  have hys2 : runFormX ys = runForm (runsOf zs) := by unfold runFormX; rw [hys]
  refine ⟨by simp, .inl ⟨_, _, rfl, run_takeDeferred hK, ?_⟩⟩; refine ⟨_, results_tmp2 rfl _ _ _, v, rfl, ?_, hB.trans (belowK_b (w := w) (Nat.le_refl _) W D _ _ (by simp at hD; omega) hK rfl rfl)⟩; rw [← hys2]; exact Kd.R_of_own (h1 := fun _ => rfl) (ownsRow_putObj hrow _ hK rfl) (fun _ _ => trivial)
 case stop =>
  rintro D c pre W _ _ h _; exact h.elim
def runs_Put.f (l0 : List Int) : Option (List Int × Int) := if l0.length > 65536 then (if l0.length ≤ 9223372036854775807 then some ([], 12) else none) else if ∀ x ∈ l0, -9223372036854775808 ≤ x ∧ x ≤ 9223372036854775807 then some (runForm (runsOf l0), 0) else none
set_option maxHeartbeats 4000000 in
theorem put_long (A0 : Option Addr) (c0 n : Nat) (w : World) (hn : 65536 < n) (hm : n ≤ 9223372036854775807) :
  Calls Tryz.prog 45 #[.slice A0 n c0] w fun e w' => e = .returned (.tuple #[.slice none 0 0, .int .i64 12]) ∧ w = w' := by
 have hd : decide (65536 < n) = true := decide_eq_true hn; go_enter Tryz.func45, Tryz.ntmps45; go_wp2
 go_ret2
 exact ⟨rfl, rfl⟩
theorem runs_Put.calls (A0 : Option Addr) (c0 : Nat) (l0 : List Int) (r1 : List Int) (r2 : Int) (w : World) (hr0 : Kd.C (Kd.int .i64) w A0 l0.length l0) (hc0 : l0.length ≤ c0) (h : runs_Put.f l0 = some (r1, r2)) :
  Calls Tryz.prog 45 #[.slice A0 l0.length c0] w fun e w' => ∃ v0_ : Value, e = .returned (.tuple #[v0_, .int .i64 r2]) ∧ Kd.R (Kd.int .u8) 5 w' w.heap.size (fun _ => True) v0_ r1 ∧ Below w.heap.size w w' := by
 unfold runs_Put.f at h
 by_cases hl : l0.length > 65536
 ·rw [if_pos hl] at h
  by_cases hm : l0.length ≤ 9223372036854775807
  ·rw [if_pos hm] at h; simp only [Option.some.injEq, Prod.mk.injEq] at h; obtain ⟨rfl, rfl⟩ := h; refine (put_long A0 c0 l0.length w hl hm).mono ?_; rintro e w' ⟨rfl, rfl⟩; exact ⟨_, rfl, Kd.R_nil _ _ _ _ _, Below.refl _ _⟩
  ·rw [if_neg hm] at h; cases h
 ·rw [if_neg hl] at h
  by_cases hw : ∀ x ∈ l0, -9223372036854775808 ≤ x ∧ x ≤ 9223372036854775807
  ·rw [if_pos hw] at h; simp only [Option.some.injEq, Prod.mk.injEq] at h; obtain ⟨rfl, rfl⟩ := h; exact callsIn_wide.1 (put_in 3 (by omega) A0 c0 l0 (by omega) hw w (Ints.of_C hr0 _ (Nat.le_refl _)))
  ·rw [if_neg hw] at h; cases h
end

end Go.Proofs.YtehbkhddbdgbcaaGreatDoor.PChunkBack
