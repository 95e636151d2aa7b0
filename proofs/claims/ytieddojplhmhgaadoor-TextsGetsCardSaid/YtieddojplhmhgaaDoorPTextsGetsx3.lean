/- WRITTEN BY A PROGRAM of this session (wip/tool: a turned copy of the printer), out of the translation: Lean functions with the answers of the Go functions, and the proofs that the Go code comes to them. -/
import Derived.Test.YtieddojplhmhgaaDoorPTextsGetsx0
import Derived.Test.YtieddojplhmhgaaDoorPTextsGetsx1
import Derived.Test.YtieddojplhmhgaaDoorPTextsGetsx2
namespace Go.Proofs.YtieddojplhmhgaaDoor.PTextsGets
open Go.RowKit Go.Proofs.YtieddojplhmhgaaDoorW.PrintWords Go.Proofs.YtieddojplhmhgaaDoorW.PrintLast Go.Proofs.YtieddojplhmhgaaDoorW.PrintMore
attribute [local go_sem] max2_int min2_int max_two min_two max_three min_three max_four min_four   -- for this text's walks alone
set_option linter.unusedVariables false
set_option linter.unusedSimpArgs false

/-! ### estreatlaw13_awake: function 25 -/
def estreatlaw13_awake.f (k : Nat)  : Option (Bool) := (texts_Put.f k (([(⟨#[98]⟩ : ByteArray), (⟨#[97]⟩ : ByteArray), (⟨#[98]⟩ : ByteArray)] : List ByteArray))).bind fun bt163 => ((estreatref01_Same.f k bt163.1 (([2, 1, 97, 1, 98, 1, 5] : List Int))).bind fun t170 => (if t170 = true then (some (bt163.2 == 0)) else (some false)))
set_option maxHeartbeats 8000000 in
set_option maxRecDepth 100000 in
theorem estreatlaw13_awake.calls (k : Nat)  (r : Bool) (w : World) (h : estreatlaw13_awake.f k  = some r) :
    Calls Tryd.prog 25 #[] w fun e w' => e = .returned (.bool r) ∧ Below w.heap.size w w' := by
  have HB := Aside0.mk (Below.refl w.heap.size w)
  have H : ((texts_Put.f k (([(⟨#[98]⟩ : ByteArray), (⟨#[97]⟩ : ByteArray), (⟨#[98]⟩ : ByteArray)] : List ByteArray))).bind fun bt163 => ((estreatref01_Same.f k bt163.1 (([2, 1, 97, 1, 98, 1, 5] : List Int))).bind fun t170 => (if t170 = true then (some (bt163.2 == 0)) else (some false)))) = some r := h
  clear h
  obtain ⟨y160, hy160⟩ : ∃ y_ : List ByteArray, y_ = (([(⟨#[98]⟩ : ByteArray), (⟨#[97]⟩ : ByteArray), (⟨#[98]⟩ : ByteArray)] : List ByteArray)) := ⟨_, rfl⟩
  replace H : ((texts_Put.f k y160).bind fun bt163 => ((estreatref01_Same.f k bt163.1 (([2, 1, 97, 1, 98, 1, 5] : List Int))).bind fun t170 => (if t170 = true then (some (bt163.2 == 0)) else (some false)))) = some r := by first | (rw [hy160]; with_reducible exact H) | (have H2_ := (Option.bind_some _ _).symm.trans H; rw [hy160]; with_reducible exact H2_) | (have H2_ := (Option.bind_some _ _).symm.trans H; with_reducible exact H2_) | with_reducible exact H | (rw [hy160]; exact H) | exact H
  have Ny160 := Aside0.mk hy160
  clear hy160
  replace H := Option.bind_eq_some_iff.mp H
  obtain ⟨⟨t163, t164⟩, A10, H⟩ := H
  replace H : ((estreatref01_Same.f k t163 (([2, 1, 97, 1, 98, 1, 5] : List Int))).bind fun t170 => (if t170 = true then (some (t164 == 0)) else (some false))) = some r := H
  have A1 := Aside0.mk A10
  clear A10
  obtain ⟨y167, hy167⟩ : ∃ y_ : List Int, y_ = (([2, 1, 97, 1, 98, 1, 5] : List Int)) := ⟨_, rfl⟩
  replace H : ((estreatref01_Same.f k t163 y167).bind fun t170 => (if t170 = true then (some (t164 == 0)) else (some false))) = some r := by first | (rw [hy167]; with_reducible exact H) | (have H2_ := (Option.bind_some _ _).symm.trans H; rw [hy167]; with_reducible exact H2_) | (have H2_ := (Option.bind_some _ _).symm.trans H; with_reducible exact H2_) | with_reducible exact H | (rw [hy167]; exact H) | exact H
  have Ny167 := Aside0.mk hy167
  clear hy167
  replace H := Option.bind_eq_some_iff.mp H
  obtain ⟨t170, A20, H⟩ := H
  replace H : (if t170 = true then (some (t164 == 0)) else (some false)) = some r := H
  have A2 := Aside0.mk A20
  clear A20
  by_cases c3 : t170 = true
  · subst c3
    have H1 : (some (t164 == 0)) = some r := by rw [if_pos rfl] at H; exact H
    clear H
    have H := H1
    clear H1
    obtain rfl := Option.some.inj H
    go_enter Tryd.func25, Tryd.ntmps25
    go_wp2_with (first | ((with_reducible refine gate_dst (N := 4) rfl ?_); refine Kd.R_lit Kd.string _ 9 ?hg (N := 4) ?hd (xs := ([(⟨#[98]⟩ : ByteArray), (⟨#[97]⟩ : ByteArray), (⟨#[98]⟩ : ByteArray)] : List ByteArray)) (inner := [.string (⟨#[98]⟩ : ByteArray), .string (⟨#[97]⟩ : ByteArray), .string (⟨#[98]⟩ : ByteArray)]) (ok := fun _ => True) (okp := fun _ => True) ?hr ?hp (fun _ hk => hk) trivial (Below.refl _ _) (Nat.le_refl _) (by simp) ?_; (case hd => rfl); (case hg => rfl); (case hr => first | (go_simp; done) | (go_simp; rfl)); (case hp => exact (Reps.one (show Kd.M Kd.string _ _ _ (⟨#[98]⟩ : ByteArray) [.string (⟨#[98]⟩ : ByteArray)] from rfl) (Reps.one (show Kd.M Kd.string _ _ _ (⟨#[97]⟩ : ByteArray) [.string (⟨#[97]⟩ : ByteArray)] from rfl) (Reps.one (show Kd.M Kd.string _ _ _ (⟨#[98]⟩ : ByteArray) [.string (⟨#[98]⟩ : ByteArray)] from rfl) (Reps.none _ _))))); intro v161 w4 ho5 hb hg_ hnew_; clear hg_ hnew_; (first | rw [← Ny160.out] at ho5 | (simp only [Int.reduceToNat] at ho5; rw [← Ny160.out] at ho5)); have n0_ := Aside0.mk (Kd.R_lower ho5 (below_size (by repeat (first | (with_reducible first | exact HB.out | apply below_alloc | apply pw_below_drewN | apply below_drew1) | exact HB.out)))); have n1_ := Aside0.mk (below_step (by repeat (first | (with_reducible first | exact HB.out | apply below_alloc | apply pw_below_drewN | apply below_drew1) | exact HB.out)) hb); clear HB; have HO162 := n0_; have HB := n1_; clear n0_ n1_; clear hb ho5; obtain ⟨Ao6, co6, eo6⟩ := Kd.R_slice HO162.out; subst eo6) | ((with_reducible refine gate_callee (f := 62) rfl ?_); refine goesL_ (some 5) rfl rfl Tryd.func62 (by kernel_rfl) rfl #[.slice Ao6 y160.length co6] rfl (by (try simp only [List.map_toArray, List.map_cons, List.map_nil]); first | done | rfl | (simp only [List.length_drop, List.length_take]; rfl)) ?_; (with_reducible refine (texts_Put.calls k _ _ y160 t163 t164 _ ?side1 ?side2 A1.out).mono ?_); (case side1 => repeat (first | exact (Kd.R_reads' HO162.out).2.2 | (with_reducible refine Kd.C_alloc ?_ _) | (with_reducible refine Kd.C_drewN ?_ _) | (with_reducible refine Kd.C_drew ?_))); (case side2 => exact (Kd.R_reads' HO162.out).2.1); rintro e w7 ⟨v165, rfl, ho0, hb⟩; refine ⟨_, rfl, ?_⟩; have n0_ := Aside0.mk (Kd.R_below (by (with_reducible repeat (first | apply Kd.R_alloc | apply Kd.R_drewN | apply Kd.R_drew)); exact HO162.out) hb); have n1_ := Aside0.mk (Kd.R_lower ho0 (below_size (by repeat (first | (with_reducible first | exact HB.out | apply below_alloc | apply pw_below_drewN | apply below_drew1) | exact HB.out)))); have n2_ := Aside0.mk (below_step (by repeat (first | (with_reducible first | exact HB.out | apply below_alloc | apply pw_below_drewN | apply below_drew1) | exact HB.out)) hb); clear HO162; clear HB; have HO162 := n0_; have HO166 := n1_; have HB := n2_; clear n0_ n1_ n2_; (try clear hb); (try clear hb2); (try clear hk); (try clear hi); (try clear ho0)) | ((with_reducible refine gate_dst (N := 9) rfl ?_); refine Kd.R_lit (Kd.int .u8) _ 5 ?hg (N := 9) ?hd (xs := ([2, 1, 97, 1, 98, 1, 5] : List Int)) (inner := [.int .u8 2, .int .u8 1, .int .u8 97, .int .u8 1, .int .u8 98, .int .u8 1, .int .u8 5]) (ok := fun _ => True) (okp := fun _ => True) ?hr ?hp (fun _ hk => hk) trivial (Below.refl _ _) (Nat.le_refl _) (by simp) ?_; (case hd => rfl); (case hg => rfl); (case hr => first | (go_simp; done) | (go_simp; rfl)); (case hp => exact (Reps.one (show Kd.M (Kd.int .u8) _ _ _ 2 [.int .u8 2] from rfl) (Reps.one (show Kd.M (Kd.int .u8) _ _ _ 1 [.int .u8 1] from rfl) (Reps.one (show Kd.M (Kd.int .u8) _ _ _ 97 [.int .u8 97] from rfl) (Reps.one (show Kd.M (Kd.int .u8) _ _ _ 1 [.int .u8 1] from rfl) (Reps.one (show Kd.M (Kd.int .u8) _ _ _ 98 [.int .u8 98] from rfl) (Reps.one (show Kd.M (Kd.int .u8) _ _ _ 1 [.int .u8 1] from rfl) (Reps.one (show Kd.M (Kd.int .u8) _ _ _ 5 [.int .u8 5] from rfl) (Reps.none _ _))))))))); intro v168 w8 ho9 hb hg_ hnew_; clear hg_ hnew_; (first | rw [← Ny167.out] at ho9 | (simp only [Int.reduceToNat] at ho9; rw [← Ny167.out] at ho9)); have n0_ := Aside0.mk (Kd.R_below (by (with_reducible repeat (first | apply Kd.R_alloc | apply Kd.R_drewN | apply Kd.R_drew)); exact HO162.out) hb); have n1_ := Aside0.mk (Kd.R_elder' (by (with_reducible repeat (first | apply Kd.R_alloc | apply Kd.R_drewN | apply Kd.R_drew)); exact HO166.out) (Kd.R_base ho9) hb); have n2_ := Aside0.mk (Kd.R_lower (Kd.R_new' ho9 (Kd.R_lt (by (with_reducible repeat (first | apply Kd.R_alloc | apply Kd.R_drewN | apply Kd.R_drew)); exact HO166.out))) (below_size (by repeat (first | (with_reducible first | exact HB.out | apply below_alloc | apply pw_below_drewN | apply below_drew1) | exact HB.out)))); have n3_ := Aside0.mk (below_step (by repeat (first | (with_reducible first | exact HB.out | apply below_alloc | apply pw_below_drewN | apply below_drew1) | exact HB.out)) hb); clear HO162; clear HO166; clear HB; have HO162 := n0_; have HO166 := n1_; have HO169 := n2_; have HB := n3_; clear n0_ n1_ n2_ n3_; clear hb ho9; obtain ⟨Ao10, co10, eo10⟩ := Kd.R_slice HO166.out; subst eo10; obtain ⟨Ao11, co11, eo11⟩ := Kd.R_slice HO169.out; subst eo11) | ((with_reducible refine gate_callee (f := 13) rfl ?_); refine goesL_ (some 10) rfl rfl Tryd.func13 (by kernel_rfl) rfl #[.slice Ao10 t163.length co10, .slice Ao11 y167.length co11] rfl (by (try simp only [List.map_toArray, List.map_cons, List.map_nil]); first | done | rfl | (simp only [List.length_drop, List.length_take]; rfl)) ?_; (with_reducible refine (estreatref01_Same.calls k _ _ t163 _ _ y167 true _ ?side1 ?side2 ?side3 ?side4 A2.out).mono ?_); (case side1 => repeat (first | exact (Kd.R_reads' HO166.out).2.2 | (with_reducible refine Kd.C_alloc ?_ _) | (with_reducible refine Kd.C_drewN ?_ _) | (with_reducible refine Kd.C_drew ?_))); (case side2 => exact (Kd.R_reads' HO166.out).2.1); (case side3 => repeat (first | exact (Kd.R_reads' HO169.out).2.2 | (with_reducible refine Kd.C_alloc ?_ _) | (with_reducible refine Kd.C_drewN ?_ _) | (with_reducible refine Kd.C_drew ?_))); (case side4 => exact (Kd.R_reads' HO169.out).2.1); rintro e w' ⟨rfl, ⟨nd, rfl⟩⟩; refine ⟨_, rfl, ?_⟩))
    go_ret
    exact ⟨by first | rfl | (simp [errW_none, errW_some] <;> rfl) | (simp [*, errW_none, errW_some] <;> rfl), by repeat (first | (with_reducible first | exact HB.out | apply below_alloc | apply pw_below_drewN | apply below_drew1) | exact HB.out)⟩
  · replace c3 := Bool.eq_false_iff.mpr c3
    subst c3
    have H1 : (some false) = some r := by rw [if_neg (show ¬ (false = true) by decide)] at H; exact H
    clear H
    have H := H1
    clear H1
    obtain rfl := Option.some.inj H
    go_enter Tryd.func25, Tryd.ntmps25
    go_wp2_with (first | ((with_reducible refine gate_dst (N := 4) rfl ?_); refine Kd.R_lit Kd.string _ 9 ?hg (N := 4) ?hd (xs := ([(⟨#[98]⟩ : ByteArray), (⟨#[97]⟩ : ByteArray), (⟨#[98]⟩ : ByteArray)] : List ByteArray)) (inner := [.string (⟨#[98]⟩ : ByteArray), .string (⟨#[97]⟩ : ByteArray), .string (⟨#[98]⟩ : ByteArray)]) (ok := fun _ => True) (okp := fun _ => True) ?hr ?hp (fun _ hk => hk) trivial (Below.refl _ _) (Nat.le_refl _) (by simp) ?_; (case hd => rfl); (case hg => rfl); (case hr => first | (go_simp; done) | (go_simp; rfl)); (case hp => exact (Reps.one (show Kd.M Kd.string _ _ _ (⟨#[98]⟩ : ByteArray) [.string (⟨#[98]⟩ : ByteArray)] from rfl) (Reps.one (show Kd.M Kd.string _ _ _ (⟨#[97]⟩ : ByteArray) [.string (⟨#[97]⟩ : ByteArray)] from rfl) (Reps.one (show Kd.M Kd.string _ _ _ (⟨#[98]⟩ : ByteArray) [.string (⟨#[98]⟩ : ByteArray)] from rfl) (Reps.none _ _))))); intro v161 w12 ho13 hb hg_ hnew_; clear hg_ hnew_; (first | rw [← Ny160.out] at ho13 | (simp only [Int.reduceToNat] at ho13; rw [← Ny160.out] at ho13)); have n0_ := Aside0.mk (Kd.R_lower ho13 (below_size (by repeat (first | (with_reducible first | exact HB.out | apply below_alloc | apply pw_below_drewN | apply below_drew1) | exact HB.out)))); have n1_ := Aside0.mk (below_step (by repeat (first | (with_reducible first | exact HB.out | apply below_alloc | apply pw_below_drewN | apply below_drew1) | exact HB.out)) hb); clear HB; have HO162 := n0_; have HB := n1_; clear n0_ n1_; clear hb ho13; obtain ⟨Ao14, co14, eo14⟩ := Kd.R_slice HO162.out; subst eo14) | ((with_reducible refine gate_callee (f := 62) rfl ?_); refine goesL_ (some 5) rfl rfl Tryd.func62 (by kernel_rfl) rfl #[.slice Ao14 y160.length co14] rfl (by (try simp only [List.map_toArray, List.map_cons, List.map_nil]); first | done | rfl | (simp only [List.length_drop, List.length_take]; rfl)) ?_; (with_reducible refine (texts_Put.calls k _ _ y160 t163 t164 _ ?side1 ?side2 A1.out).mono ?_); (case side1 => repeat (first | exact (Kd.R_reads' HO162.out).2.2 | (with_reducible refine Kd.C_alloc ?_ _) | (with_reducible refine Kd.C_drewN ?_ _) | (with_reducible refine Kd.C_drew ?_))); (case side2 => exact (Kd.R_reads' HO162.out).2.1); rintro e w15 ⟨v165, rfl, ho0, hb⟩; refine ⟨_, rfl, ?_⟩; have n0_ := Aside0.mk (Kd.R_below (by (with_reducible repeat (first | apply Kd.R_alloc | apply Kd.R_drewN | apply Kd.R_drew)); exact HO162.out) hb); have n1_ := Aside0.mk (Kd.R_lower ho0 (below_size (by repeat (first | (with_reducible first | exact HB.out | apply below_alloc | apply pw_below_drewN | apply below_drew1) | exact HB.out)))); have n2_ := Aside0.mk (below_step (by repeat (first | (with_reducible first | exact HB.out | apply below_alloc | apply pw_below_drewN | apply below_drew1) | exact HB.out)) hb); clear HO162; clear HB; have HO162 := n0_; have HO166 := n1_; have HB := n2_; clear n0_ n1_ n2_; (try clear hb); (try clear hb2); (try clear hk); (try clear hi); (try clear ho0)) | ((with_reducible refine gate_dst (N := 9) rfl ?_); refine Kd.R_lit (Kd.int .u8) _ 5 ?hg (N := 9) ?hd (xs := ([2, 1, 97, 1, 98, 1, 5] : List Int)) (inner := [.int .u8 2, .int .u8 1, .int .u8 97, .int .u8 1, .int .u8 98, .int .u8 1, .int .u8 5]) (ok := fun _ => True) (okp := fun _ => True) ?hr ?hp (fun _ hk => hk) trivial (Below.refl _ _) (Nat.le_refl _) (by simp) ?_; (case hd => rfl); (case hg => rfl); (case hr => first | (go_simp; done) | (go_simp; rfl)); (case hp => exact (Reps.one (show Kd.M (Kd.int .u8) _ _ _ 2 [.int .u8 2] from rfl) (Reps.one (show Kd.M (Kd.int .u8) _ _ _ 1 [.int .u8 1] from rfl) (Reps.one (show Kd.M (Kd.int .u8) _ _ _ 97 [.int .u8 97] from rfl) (Reps.one (show Kd.M (Kd.int .u8) _ _ _ 1 [.int .u8 1] from rfl) (Reps.one (show Kd.M (Kd.int .u8) _ _ _ 98 [.int .u8 98] from rfl) (Reps.one (show Kd.M (Kd.int .u8) _ _ _ 1 [.int .u8 1] from rfl) (Reps.one (show Kd.M (Kd.int .u8) _ _ _ 5 [.int .u8 5] from rfl) (Reps.none _ _))))))))); intro v168 w16 ho17 hb hg_ hnew_; clear hg_ hnew_; (first | rw [← Ny167.out] at ho17 | (simp only [Int.reduceToNat] at ho17; rw [← Ny167.out] at ho17)); have n0_ := Aside0.mk (Kd.R_below (by (with_reducible repeat (first | apply Kd.R_alloc | apply Kd.R_drewN | apply Kd.R_drew)); exact HO162.out) hb); have n1_ := Aside0.mk (Kd.R_elder' (by (with_reducible repeat (first | apply Kd.R_alloc | apply Kd.R_drewN | apply Kd.R_drew)); exact HO166.out) (Kd.R_base ho17) hb); have n2_ := Aside0.mk (Kd.R_lower (Kd.R_new' ho17 (Kd.R_lt (by (with_reducible repeat (first | apply Kd.R_alloc | apply Kd.R_drewN | apply Kd.R_drew)); exact HO166.out))) (below_size (by repeat (first | (with_reducible first | exact HB.out | apply below_alloc | apply pw_below_drewN | apply below_drew1) | exact HB.out)))); have n3_ := Aside0.mk (below_step (by repeat (first | (with_reducible first | exact HB.out | apply below_alloc | apply pw_below_drewN | apply below_drew1) | exact HB.out)) hb); clear HO162; clear HO166; clear HB; have HO162 := n0_; have HO166 := n1_; have HO169 := n2_; have HB := n3_; clear n0_ n1_ n2_ n3_; clear hb ho17; obtain ⟨Ao18, co18, eo18⟩ := Kd.R_slice HO166.out; subst eo18; obtain ⟨Ao19, co19, eo19⟩ := Kd.R_slice HO169.out; subst eo19) | ((with_reducible refine gate_callee (f := 13) rfl ?_); refine goesL_ (some 10) rfl rfl Tryd.func13 (by kernel_rfl) rfl #[.slice Ao18 t163.length co18, .slice Ao19 y167.length co19] rfl (by (try simp only [List.map_toArray, List.map_cons, List.map_nil]); first | done | rfl | (simp only [List.length_drop, List.length_take]; rfl)) ?_; (with_reducible refine (estreatref01_Same.calls k _ _ t163 _ _ y167 false _ ?side1 ?side2 ?side3 ?side4 A2.out).mono ?_); (case side1 => repeat (first | exact (Kd.R_reads' HO166.out).2.2 | (with_reducible refine Kd.C_alloc ?_ _) | (with_reducible refine Kd.C_drewN ?_ _) | (with_reducible refine Kd.C_drew ?_))); (case side2 => exact (Kd.R_reads' HO166.out).2.1); (case side3 => repeat (first | exact (Kd.R_reads' HO169.out).2.2 | (with_reducible refine Kd.C_alloc ?_ _) | (with_reducible refine Kd.C_drewN ?_ _) | (with_reducible refine Kd.C_drew ?_))); (case side4 => exact (Kd.R_reads' HO169.out).2.1); rintro e w' ⟨rfl, ⟨nd, rfl⟩⟩; refine ⟨_, rfl, ?_⟩))
    go_ret
    exact ⟨by first | rfl | (simp [errW_none, errW_some] <;> rfl) | (simp [*, errW_none, errW_some] <;> rfl), by repeat (first | (with_reducible first | exact HB.out | apply below_alloc | apply pw_below_drewN | apply below_drew1) | exact HB.out)⟩

/-! ### bytes_Clone: function 70 -/
def bytes_Clone.f (l0 : List Int) : Option (List Int) := if l0.length * 1 ≤ 140737488355328 then some l0 else none
theorem bytes_Clone.info : (Tryd.prog.info? 5).map (fun i => (i.zero, i.size, i.bytes)) = some (some (.int .u8 0), 1, 1) := by kernel_rfl
theorem bytes_Clone.under : Tryd.prog.underlying 23 = some (.slice 5) := by kernel_rfl
set_option maxHeartbeats 4000000 in
theorem bytes_Clone.calls (A0 : Option Addr) (c0 : Nat) (l0 : List Int) (r : List Int) (w : World) (hr0 : (Kd.int .u8).C w A0 l0.length l0) (hc0 : l0.length ≤ c0) (h : bytes_Clone.f l0 = some r) :
    Calls Tryd.prog 70 #[.slice A0 l0.length c0] w fun e w' => ∃ v0_ : Value, e = .returned v0_ ∧ (Kd.int .u8).R 5 w' w.heap.size (fun _ => True) v0_ r ∧ Below w.heap.size w w' := by
  unfold bytes_Clone.f at h
  by_cases hl : l0.length * 1 ≤ 140737488355328
  · rw [if_pos hl] at h
    obtain rfl := Option.some.inj h
    cases A0 with
    | none =>
      have h0 : l0 = [] := by
        rcases l0 with _ | ⟨x, l⟩
        · rfl
        · obtain ⟨ad, e, _⟩ := hr0.2.2 (by simp)
          cases e
      subst h0
      have e1 : ∀ w, (binOp BinOp.eql 23 (.slice none ([] : List Int).length c0) (.slice none 0 0)).run Tryd.prog w = .ok (.bool true) w := fun w => by kernel_rfl
      simp only [List.length_nil] at e1 ⊢
      go_enter Tryd.func70, Tryd.ntmps70
      go_wp2
      go_ret
      exact ⟨_, rfl, Kd.R_nil _ _ _ _ _, Below.refl _ _⟩
    | some ad =>
      have e1 : ∀ w, (binOp BinOp.eql 23 (.slice (some ad) l0.length c0) (.slice none 0 0)).run Tryd.prog w = .ok (.bool false) w := fun w => by kernel_rfl
      have hB1 : Below w.heap.size w (w.alloc (.cells #[] 5)) := below_alloc (Below.refl _ _) _
      have hR1 : (Kd.int .u8).R 5 (w.alloc (.cells #[] 5)) w.heap.size (fun _ => True) (.slice (some ⟨w.heap.size, 0, none⟩) 0 0) [] :=
        Kd.R_of_own (h1 := fun _ => rfl) (by simpa [encs] using World.ownsRow_lit (base := w.heap.size) (e := 5) (size := 1) w #[] 0 (Nat.le_refl _) (by decide) (by simp)) (fun _ _ => trivial)
      have hC1 := Kd.C_below hr0 hB1
      go_enter Tryd.func70, Tryd.ntmps70
      go_wp2_with ((with_reducible refine gate_builtin (b := .append) (xs := #[.tmp 5, .tmp 6]) rfl ?_); at_builtin; refine Kd.R_append_rows (Kd.int .u8) (w0 := w) w.heap.size rfl (.tmp 5) (.tmp 6) 23 5 (.int .u8 0) 1 rfl bytes_Clone.under bytes_Clone.info rfl (by decide) (by omega) _ [] l0 _ _ _ (fun _ => True) (fun _ => False) rfl rfl hR1 hC1 (fun _ _ h => h) (fun _ h => h.elim) (fun _ _ => trivial) hB1 (by simp) (by simpa using hl) ?_; intro v1 w1 ho hb hg hat)
      go_ret
      exact ⟨_, rfl, by simpa using ho, hb⟩
  · rw [if_neg hl] at h; cases h

/-- What a num.Reader's state leads to beside its own block: its bytes' block and its fault's block, told by their types. -/
def NeRd (W : World) (g : Nat) (x : Option Nat) : Prop := some g ≠ x ∧ ∀ F cs t, (t = 92 ∨ t = 5) → W.heap[F]? = some (.cells cs t (0, 0)) → some F ≠ x
/-- An error's value: none, or a fault at a block of its own. -/
def FaultAt (w0 W : World) (ev : Value) (e at_ : Int) : Prop :=
  (e = 0 ∧ at_ = 0 ∧ ev = .nilIface) ∨ (e ≠ 0 ∧ ∃ F, ev = .iface 90 (.pointer (some ⟨F, 0, none⟩)) ∧ W.heap[F]? = some (.cells #[.int .i64 at_, .iface 25 (.int .i64 e)] 92 (0, 0)) ∧ w0.heap.size ≤ F)
theorem FaultAt.same {w0 W W1 : World} {ev : Value} {e at_ : Int} (h : FaultAt w0 W ev e at_) (hk : ∀ (F : Nat) (cs : Array Value), W.heap[F]? = some (.cells cs 92 (0, 0)) → W1.heap[F]? = W.heap[F]?) : FaultAt w0 W1 ev e at_ := by
  rcases h with h | ⟨h0, F, h1, h2, h3⟩
  · exact .inl h
  · exact .inr ⟨h0, F, h1, (hk F _ h2).trans h2, h3⟩
/-- The variable of package errors that calls lead to is as the program's start left it. -/
def HG (w : World) : Prop := w.cell? ⟨0, 0, none⟩ = some (.iface 133 (.agg #[.pointer (some ⟨1, 85, none⟩)]))
theorem HG.heap {w W : World} (h : HG w) (hk : ∀ k, k < w.heap.size → W.heap[k]? = w.heap[k]?) : HG W := by
  have h0 : 0 < w.heap.size := Go.block_lt_of_cell (a := ⟨0, 0, none⟩) h
  unfold HG World.cell? at *
  rw [hk 0 h0]; exact h
theorem HG.below {w W : World} (hB : Below w.heap.size w W) (h : HG w) : HG W := h.heap (fun k hk => hB.block k hk)
/-- A num.Reader at block g of W. -/
def IsS87 (w0 W : World) (g : Nat) (f0 : List Int) (f1 : Int) (f2 : Int) (f3 : Int) : Prop :=
  ∃ A0 c0 ev, W.heap[g]? = some (.cells #[.slice A0 f0.length c0, .int .i64 f1, ev] 87 (0, 0)) ∧ w0.heap.size ≤ g ∧ (Kd.int .u8).R 5 W w0.heap.size (fun k => some k = (Value.slice A0 f0.length c0).ownBlock) (.slice A0 f0.length c0) f0 ∧ FaultAt w0 W ev f2 f3 ∧ HG w0
section
variable {w0 W : World} {g : Nat} {f0 : List Int} {f1 f2 f3 : Int}
theorem IsS87.same {W1 : World} (h : IsS87 w0 W g f0 f1 f2 f3) (hk : ∀ (k : Nat) (cs : Array Value) (t : Nat), (t = 87 ∧ k = g ∨ t = 92 ∨ t = 5) → W.heap[k]? = some (.cells cs t (0, 0)) → W1.heap[k]? = W.heap[k]?) : IsS87 w0 W1 g f0 f1 f2 f3 := by
  obtain ⟨A, c, ev, hb, hg, hr, hf, hG⟩ := h
  refine ⟨A, c, ev, (hk g _ _ (.inl ⟨rfl, rfl⟩) hb).trans hb, hg, ?_, hf.same (fun F cs hF => hk F cs _ (.inr (.inl rfl)) hF), hG⟩
  have hty := Kd.R_typed hr
  exact Kd.R_step hr (fun k ho hlt => by obtain ⟨cs, hcs⟩ := hty k ho.symm; exact hk k cs _ (.inr (.inr rfl)) hcs)
theorem IsS87.grown {W1 : World} {row : Option Nat} (h : IsS87 w0 W g f0 f1 f2 f3) (hw : W.grownBy W1 row) (hne : some g ≠ row ∧ ∀ F cs t, (t = 92 ∨ t = 5) → W.heap[F]? = some (.cells cs t (0, 0)) → some F ≠ row) : IsS87 w0 W1 g f0 f1 f2 f3 :=
  h.same (fun k cs t ht hc => hw.block k (blk_lt hc) (by
    rcases ht with ⟨_, rfl⟩ | ht
    · exact hne.1
    · exact hne.2 k cs t ht hc))
theorem IsS87.kept {W1 : World} {S : Nat → Prop} (h : IsS87 w0 W g f0 f1 f2 f3) (hk : Kept W W1 S) (hne : ∀ k cs t, (t = 87 ∧ k = g ∨ t = 92 ∨ t = 5) → W.heap[k]? = some (.cells cs t (0, 0)) → ¬ S k) : IsS87 w0 W1 g f0 f1 f2 f3 :=
  h.same (fun k cs t ht hc => hk.2 k (blk_lt hc) (hne k cs t ht hc))
theorem IsS87.below {W1 : World} (h : IsS87 w0 W g f0 f1 f2 f3) (hw : Below W.heap.size W W1) : IsS87 w0 W1 g f0 f1 f2 f3 := h.same (fun k _ _ _ hc => hw.block k (blk_lt hc))
theorem IsS87.alloc (h : IsS87 w0 W g f0 f1 f2 f3) (o : Obj) : IsS87 w0 (W.alloc o) g f0 f1 f2 f3 := h.below (below_alloc (Below.refl _ _) o)
theorem IsS87.drewN (h : IsS87 w0 W g f0 f1 f2 f3) (m : Nat) : IsS87 w0 (W.drewN m) g f0 f1 f2 f3 := h.below (pw_below_drewN (Below.refl _ _) m)
theorem IsS87.drew (h : IsS87 w0 W g f0 f1 f2 f3) : IsS87 w0 W.drew g f0 f1 f2 f3 := h.below (below_drew1 (Below.refl _ _))
theorem IsS87.at_ {w' : World} {m : Nat} (hq : W.drewN m = w') (h : IsS87 w0 W g f0 f1 f2 f3) : IsS87 w0 w' g f0 f1 f2 f3 := by subst hq; exact IsS87.drewN h m
theorem IsS87.lt (h : IsS87 w0 W g f0 f1 f2 f3) : g < W.heap.size := by
  obtain ⟨A, c, ev, hb, _⟩ := h
  exact blk_lt hb
theorem IsS87.ge (h : IsS87 w0 W g f0 f1 f2 f3) : w0.heap.size ≤ g := by
  obtain ⟨A, c, ev, _, hg, _⟩ := h
  exact hg
theorem IsS87.cellset (h : IsS87 w0 W g f0 f1 f2 f3) (j : Nat) (u : Value) : ∃ A0 c0 ev, (W.setCell ⟨g, j, none⟩ u).heap[g]? = some (.cells (#[.slice A0 f0.length c0, .int .i64 f1, ev].setIfInBounds j u) 87 (0, 0)) ∧ w0.heap.size ≤ g ∧ (Kd.int .u8).R 5 (W.setCell ⟨g, j, none⟩ u) w0.heap.size (fun k => some k = (Value.slice A0 f0.length c0).ownBlock) (.slice A0 f0.length c0) f0 ∧ FaultAt w0 (W.setCell ⟨g, j, none⟩ u) ev f2 f3 ∧ HG w0 := by
  obtain ⟨A, c, ev, hb, hg, hr, hf, hG⟩ := h
  have hne := Kd.R_ne hr hb (by decide)
  refine ⟨A, c, ev, blk_set hb j u, hg, Kd.R_far hr (fun k hk (e : k = g) => hne (by rw [← e]; exact hk)) u, hf.same (fun F cs hF => Below.heap_setCell W ⟨g, j, none⟩ u F (fun e => ?_)), hG⟩
  rw [show F = g from e, hb] at hF
  injection hF with hF
  injection hF with _ ht
  exact absurd ht (by decide)
theorem IsS87.set_1 (h : IsS87 w0 W g f0 f1 f2 f3) (x : Int) : IsS87 w0 (W.setCell ⟨g, 1, none⟩ (.int .i64 x)) g f0 x f2 f3 := by
  obtain ⟨A, c, ev, hb, hg, hr, hf, hG⟩ := h.cellset 1 (.int .i64 x)
  exact ⟨A, c, ev, by simpa using hb, hg, hr, hf, hG⟩
theorem IsS87.fail (h : IsS87 w0 W g f0 f1 f2 f3) {e : Int} (he : e ≠ 0) (at_ : Int) : IsS87 w0 ((W.setCell ⟨g, 2, none⟩ (.iface 90 (.pointer (some ⟨W.heap.size, 0, none⟩)))).alloc (.cells #[.int .i64 at_, .iface 25 (.int .i64 e)] 92)) g f0 f1 e at_ := by
  have hlt := h.lt
  obtain ⟨A, c, ev, hb, hg, hr, hf, hG⟩ := h.cellset 2 (.iface 90 (.pointer (some ⟨W.heap.size, 0, none⟩)))
  refine ⟨A, c, _, blk_below hb (below_alloc (Below.refl _ _) _), hg, Kd.R_below hr (below_alloc (Below.refl _ _) _), .inr ⟨he, W.heap.size, by simp, ?_, by omega⟩, hG⟩
  have := heap_alloc_new (W.setCell ⟨g, 2, none⟩ (.iface 90 (.pointer (some ⟨W.heap.size, 0, none⟩)))) (.cells #[.int .i64 at_, .iface 25 (.int .i64 e)] 92)
  simpa using this
variable {α : Type} {d : Kd α} {e : Nat} {base : Nat} {ok : Nat → Prop} {v : Value} {xs : List α}
theorem IsS87.own_ne (h : IsS87 w0 W g f0 f1 f2 f3) (ho : Kd.R d e W base ok v xs) (ht : e ≠ 87 ∧ e ≠ 92 ∧ e ≠ 5) : NeRd W g v.ownBlock := by
  obtain ⟨A, c, ev, hb, _⟩ := h
  refine ⟨Kd.R_ne ho hb ht.1, ?_⟩
  rintro F cs t (rfl | rfl) hF
  · exact Kd.R_ne ho hF ht.2.1
  · exact Kd.R_ne ho hF ht.2.2
theorem IsS87.apart (h : IsS87 w0 W g f0 f1 f2 f3) (ho : Kd.R d e W base ok v xs) (ht : ∀ q, q ∈ e :: d.E → q ≠ 87) : Kd.R d e W base (fun k => ok k ∧ k ≠ g) v xs := by
  obtain ⟨A, c, ev, hb, _⟩ := h
  exact Kd.R_types ho hb ht
end


/-! ### num_NewReader: function 34 -/
def num_NewReader.f (l0 : List Int) : Option (List Int × Int × Int × Int) := if l0.length * 1 ≤ 140737488355328 then some (l0, 0, 0, 0) else none
set_option maxHeartbeats 4000000 in
theorem num_NewReader.calls (A0 : Option Addr) (c0 : Nat) (l0 : List Int) (r1 : List Int) (r2 : Int) (r3 : Int) (r4 : Int) (w0 w : World) (hB : Below w0.heap.size w0 w) (hr0 : (Kd.int .u8).C w A0 l0.length l0) (hc0 : l0.length ≤ c0) (hG : HG w0) (h : num_NewReader.f l0 = some (r1, r2, r3, r4)) :
    Calls Tryd.prog 34 #[.slice A0 l0.length c0] w fun e w' => ∃ g_ : Nat, e = .returned (.pointer (some ⟨g_, 0, none⟩)) ∧ IsS87 w0 w' g_ r1 r2 r3 r4 ∧ Below w0.heap.size w0 w' ∧ Below w.heap.size w w' := by
  unfold num_NewReader.f at h
  by_cases hl : l0.length * 1 ≤ 140737488355328
  · rw [if_pos hl] at h
    simp only [Option.some.injEq, Prod.mk.injEq] at h
    obtain ⟨rfl, rfl, rfl, rfl⟩ := h
    have hf : bytes_Clone.f l0 = some l0 := by unfold bytes_Clone.f; rw [if_pos hl]
    go_enter Tryd.func34, Tryd.ntmps34
    go_wp2_with (go_at_call 70; refine (bytes_Clone.calls A0 c0 l0 l0 w hr0 hc0 hf).mono ?_; rintro e w' ⟨v, rfl, hR, hB1⟩; obtain ⟨A, c, rfl⟩ := Kd.R_slice hR)
    go_ret
    have hB2 := below_step hB hB1
    have hR2 := Kd.R_lower hR (below_size hB)
    have hR3 : (Kd.int .u8).R 5 w' w0.heap.size (fun k => some k = (Value.slice A l0.length c).ownBlock) (.slice A l0.length c) l0 := Kd.R_of_own (h1 := fun _ => rfl) (Kd.own_of_R hR2) (fun k hk => hk.symm)
    exact ⟨_, rfl, ⟨A, c, .nilIface, by simpa using heap_alloc_new w' _, below_size hB2, Kd.R_below hR3 (below_alloc (Below.refl _ _) _), .inl ⟨rfl, rfl, rfl⟩, hG⟩, below_alloc hB2 _, below_alloc hB1 _⟩
  · rw [if_neg hl] at h; cases h

/-! ### num_Reader_ok: function 71 -/
theorem IsS87.open {w0 W : World} {g : Nat} {f0 : List Int} {f1 f2 f3 : Int} (h : IsS87 w0 W g f0 f1 f2 f3) :
    ∃ A0 c0 ev, W.heap[g]? = some (.cells #[.slice A0 f0.length c0, .int .i64 f1, ev] 87 (0, 0)) ∧ W.cell? ⟨g, 0, none⟩ = some (.slice A0 f0.length c0) ∧ W.cell? ⟨g, 1, none⟩ = some (.int .i64 f1) ∧ W.cell? ⟨g, 2, none⟩ = some ev ∧ (∀ j, W.frozen? ⟨g, j, none⟩ = false) ∧
      (Kd.int .u8).R 5 W w0.heap.size (fun k => some k = (Value.slice A0 f0.length c0).ownBlock) (.slice A0 f0.length c0) f0 ∧ FaultAt w0 W ev f2 f3 := by
  obtain ⟨A, c, ev, hb, hg, hr, hf, hG⟩ := h
  exact ⟨A, c, ev, hb, (blk_cell hb 0).trans rfl, (blk_cell hb 1).trans rfl, (blk_cell hb 2).trans rfl, fun j => by simp [World.frozen?, hb], hr, hf⟩
theorem FaultAt.eqNil {w0 W : World} {ev : Value} {e at_ : Int} (h : FaultAt w0 W ev e at_) (w : World) : (binOp BinOp.eql 85 ev .nilIface).run Tryd.prog w = .ok (.bool (decide (e = 0))) w := by
  rcases h with ⟨rfl, rfl, rfl⟩ | ⟨h0, F, rfl, _⟩
  · kernel_rfl
  · rw [decide_eq_false h0]; kernel_rfl
theorem FaultAt.guardNil {w0 W : World} {ev : Value} {e at_ : Int} (h : FaultAt w0 W ev e at_) (t : Nat) (w : World) : (eqGuard BinOp.eql 85 (Operand.tmp t) (Operand.const Value.nilIface) ev Value.nilIface).run Tryd.prog w = .ok () w := by
  rcases h with ⟨rfl, rfl, rfl⟩ | ⟨h0, F, rfl, _⟩
  · kernel_rfl
  · kernel_rfl
theorem num_Reader_ok.walk (g : Nat) (s0_0 : List Int) (s0_1 : Int) (s0_2 : Int) (s0_3 : Int) (w0 w : World) (hI : IsS87 w0 w g s0_0 s0_1 s0_2 s0_3) :
    Calls Tryd.prog 71 #[.pointer (some ⟨g, 0, none⟩)] w fun e w' => e = .returned (.bool (decide (s0_2 = 0))) ∧ w' = w := by
  obtain ⟨A, c, ev, hb, hc0, hc1, hc2, hfz, hr, hf⟩ := hI.open
  have hq := hf.eqNil
  have hq2 := hf.guardNil
  have e1 : ∀ w, (binOp BinOp.neq 50 (.pointer (some ⟨g, 0, none⟩)) (.pointer none)).run Tryd.prog w = .ok (.bool true) w := fun w => by kernel_rfl
  go_enter Tryd.func71, Tryd.ntmps71
  go_wp2
  go_ret
  exact ⟨rfl, rfl⟩
def num_Reader_ok.f (s0_0 : List Int) (s0_1 : Int) (s0_2 : Int) (s0_3 : Int) : Option (Bool × Int × Int × Int) := some (decide (s0_2 = 0), s0_1, s0_2, s0_3)
theorem num_Reader_ok.calls (g : Nat) (s0_0 : List Int) (s0_1 : Int) (s0_2 : Int) (s0_3 : Int) (r1 : Bool) (r2 r3 r4 : Int) (w0 w : World) (hI : IsS87 w0 w g s0_0 s0_1 s0_2 s0_3) (hB : Below w0.heap.size w0 w) (h : num_Reader_ok.f s0_0 s0_1 s0_2 s0_3 = some (r1, r2, r3, r4)) :
    Calls Tryd.prog 71 #[.pointer (some ⟨g, 0, none⟩)] w fun e w' => e = .returned (.bool r1) ∧ IsS87 w0 w' g s0_0 r2 r3 r4 ∧ Below w0.heap.size w0 w' ∧ KeepBut w w' g none := by
  simp only [num_Reader_ok.f, Option.some.injEq, Prod.mk.injEq] at h
  obtain ⟨rfl, rfl, rfl, rfl⟩ := h
  refine (num_Reader_ok.walk g s0_0 s0_1 s0_2 s0_3 w0 w hI).mono ?_
  rintro e w' ⟨rfl, rfl⟩
  exact ⟨rfl, hI, hB, KeepBut.refl _ _ _⟩

/-! ### num_Reader_Fail: function 38 -/
/-- What Fail does: nothing, or a new fault is put into the state. -/
def num_Reader_Fail.next (e at_ on f : Int) : Int × Int := if e = 0 ∧ f ≠ 0 then (f, at_) else (e, on)
set_option maxHeartbeats 4000000 in
theorem num_Reader_Fail.walk (g : Nat) (s0_0 : List Int) (s0_1 : Int) (s0_2 : Int) (s0_3 : Int) (a1 : Int) (w0 w : World) (hI : IsS87 w0 w g s0_0 s0_1 s0_2 s0_3) (hB : Below w0.heap.size w0 w) :
    Calls Tryd.prog 38 #[.pointer (some ⟨g, 0, none⟩), .int .i64 a1] w fun e w' => e = .returned (.tuple #[]) ∧ IsS87 w0 w' g s0_0 s0_1 (num_Reader_Fail.next s0_2 s0_1 s0_3 a1).1 (num_Reader_Fail.next s0_2 s0_1 s0_3 a1).2 ∧ Below w0.heap.size w0 w' ∧ KeepBut w w' g none := by
  have hI0 := hI
  obtain ⟨A, c, ev, hb, hc0, hc1, hc2, hfz, hr, hf⟩ := hI.open
  have hg := hI.ge
  have hlt := hI.lt
  by_cases h0 : s0_2 = 0
  · have d0 : decide (s0_2 = 0) = true := decide_eq_true h0
    by_cases h1 : a1 = 0
    · rw [show num_Reader_Fail.next s0_2 s0_1 s0_3 a1 = (s0_2, s0_3) from if_neg (by simp [h1])]
      subst h1
      go_enter Tryd.func38, Tryd.ntmps38
      go_wp2_with (go_at_call 71; refine (num_Reader_ok.walk g _ _ _ _ w0 w hI0).mono ?_; rintro e w' ⟨he, rfl⟩; rw [d0] at he; subst he)
      go_end0
      exact ⟨rfl, hI0, hB, KeepBut.refl _ _ _⟩
    · rw [show num_Reader_Fail.next s0_2 s0_1 s0_3 a1 = (a1, s0_1) from if_pos ⟨h0, h1⟩]
      have d1 : decide (a1 = 0) = false := decide_eq_false h1
      go_enter Tryd.func38, Tryd.ntmps38
      go_wp2_with (go_at_call 71; refine (num_Reader_ok.walk g _ _ _ _ w0 w hI0).mono ?_; rintro e w' ⟨he, rfl⟩; rw [d0] at he; subst he)
      go_end0
      exact ⟨rfl, hI0.fail h1 s0_1, below_alloc (below_set hB (show w0.heap.size ≤ (⟨g, 2, none⟩ : Addr).block from hg)) _, keep_alloc (KeepBut.set_ (KeepBut.refl _ _ _) _ _) _⟩
  · rw [show num_Reader_Fail.next s0_2 s0_1 s0_3 a1 = (s0_2, s0_3) from if_neg (by simp [h0])]
    have d0 : decide (s0_2 = 0) = false := decide_eq_false h0
    go_enter Tryd.func38, Tryd.ntmps38
    go_wp2_with (go_at_call 71; refine (num_Reader_ok.walk g _ _ _ _ w0 w hI0).mono ?_; rintro e w' ⟨he, rfl⟩; rw [d0] at he; subst he)
    go_end0
    exact ⟨rfl, hI0, hB, KeepBut.refl _ _ _⟩
def num_Reader_Fail.f (s0_0 : List Int) (s0_1 : Int) (s0_2 : Int) (s0_3 : Int) (a1 : Int) : Option (Int × Int × Int) := some (s0_1, num_Reader_Fail.next s0_2 s0_1 s0_3 a1)
theorem num_Reader_Fail.calls (g : Nat) (s0_0 : List Int) (s0_1 : Int) (s0_2 : Int) (s0_3 : Int) (a1 : Int) (r1 r2 r3 : Int) (w0 w : World) (hI : IsS87 w0 w g s0_0 s0_1 s0_2 s0_3) (hB : Below w0.heap.size w0 w) (h : num_Reader_Fail.f s0_0 s0_1 s0_2 s0_3 a1 = some (r1, r2, r3)) :
    Calls Tryd.prog 38 #[.pointer (some ⟨g, 0, none⟩), .int .i64 a1] w fun e w' => e = .returned (.tuple #[]) ∧ IsS87 w0 w' g s0_0 r1 r2 r3 ∧ Below w0.heap.size w0 w' ∧ KeepBut w w' g none := by
  simp only [num_Reader_Fail.f, Option.some.injEq, Prod.mk.injEq] at h
  obtain ⟨rfl, h⟩ := h
  have := num_Reader_Fail.walk g s0_0 s0_1 s0_2 s0_3 a1 w0 w hI hB
  rw [h] at this
  exact this

/-! ### num_Reader_Left: function 42 -/
set_option maxHeartbeats 4000000 in
theorem num_Reader_Left.walk (g : Nat) (s0_0 : List Int) (s0_1 : Int) (s0_2 : Int) (s0_3 : Int) (w0 w : World) (hI : IsS87 w0 w g s0_0 s0_1 s0_2 s0_3) :
    Calls Tryd.prog 42 #[.pointer (some ⟨g, 0, none⟩)] w fun e w' => e = .returned (.int .i64 (wrap64 ((s0_0.length : Int) - s0_1))) ∧ Drawn0 w w' := by
  obtain ⟨A, c, ev, hb, hc0, hc1, hc2, hfz, hr, hf⟩ := hI.open
  have e1 : ∀ w, (binOp BinOp.eql 50 (.pointer (some ⟨g, 0, none⟩)) (.pointer none)).run Tryd.prog w = .ok (.bool false) w := fun w => by kernel_rfl
  go_enter Tryd.func42, Tryd.ntmps42
  go_wp2
  go_quiet (fail)
  go_wp2
  go_ret
  exact ⟨rfl, ⟨_, rfl⟩⟩
def num_Reader_Left.f (s0_0 : List Int) (s0_1 : Int) (s0_2 : Int) (s0_3 : Int) : Option (Int × Int × Int × Int) := some (wrap64 ((s0_0.length : Int) - s0_1), s0_1, s0_2, s0_3)
theorem num_Reader_Left.calls (g : Nat) (s0_0 : List Int) (s0_1 : Int) (s0_2 : Int) (s0_3 : Int) (r1 : Int) (r2 r3 r4 : Int) (w0 w : World) (hI : IsS87 w0 w g s0_0 s0_1 s0_2 s0_3) (hB : Below w0.heap.size w0 w) (h : num_Reader_Left.f s0_0 s0_1 s0_2 s0_3 = some (r1, r2, r3, r4)) :
    Calls Tryd.prog 42 #[.pointer (some ⟨g, 0, none⟩)] w fun e w' => e = .returned (.int .i64 r1) ∧ IsS87 w0 w' g s0_0 r2 r3 r4 ∧ Below w0.heap.size w0 w' ∧ KeepBut w w' g none := by
  simp only [num_Reader_Left.f, Option.some.injEq, Prod.mk.injEq] at h
  obtain ⟨rfl, rfl, rfl, rfl⟩ := h
  refine (num_Reader_Left.walk g s0_0 s0_1 s0_2 s0_3 w0 w hI).mono ?_
  rintro e w' ⟨rfl, ⟨m, rfl⟩⟩
  exact ⟨rfl, hI.drewN m, pw_below_drewN hB m, keep_drewN (KeepBut.refl _ _ _) m⟩

/-! ### num_Reader_Take: function 41 -/
def num_Reader_Take.f (s0_0 : List Int) (s0_1 : Int) (s0_2 : Int) (s0_3 : Int) (a1 : Int) : Option (List Int × Int × Int × Int) :=
  if 0 ≤ s0_1 ∧ s0_1 ≤ (s0_0.length : Int) ∧ (s0_0.length : Int) ≤ 140737488355328 then
    if s0_2 ≠ 0 then some ([], s0_1, s0_2, s0_3)
    else if a1 < 0 then some ([], s0_1, 1, s0_1)
    else if (s0_0.length : Int) - s0_1 < a1 then some ([], s0_1, 2, s0_1)
    else some ((s0_0.drop s0_1.toNat).take a1.toNat, s0_1 + a1, 0, s0_3)
  else none
set_option maxHeartbeats 4000000 in
theorem num_Reader_Take.calls (g : Nat) (s0_0 : List Int) (s0_1 : Int) (s0_2 : Int) (s0_3 : Int) (a1 : Int) (r1 : List Int) (r2 r3 r4 : Int) (w0 w : World) (hI : IsS87 w0 w g s0_0 s0_1 s0_2 s0_3) (hB : Below w0.heap.size w0 w) (h : num_Reader_Take.f s0_0 s0_1 s0_2 s0_3 a1 = some (r1, r2, r3, r4)) :
    Calls Tryd.prog 41 #[.pointer (some ⟨g, 0, none⟩), .int .i64 a1] w fun e w' => ∃ v0_ : Value, e = .returned v0_ ∧ (Kd.int .u8).R 5 w' w.heap.size (fun _ => True) v0_ r1 ∧ IsS87 w0 w' g s0_0 r2 r3 r4 ∧ Below w0.heap.size w0 w' ∧ KeepBut w w' g none := by
  unfold num_Reader_Take.f at h
  by_cases hb0 : 0 ≤ s0_1 ∧ s0_1 ≤ (s0_0.length : Int) ∧ (s0_0.length : Int) ≤ 140737488355328
  case neg => rw [if_neg hb0] at h; cases h
  rw [if_pos hb0] at h
  have hw : wrap64 ((s0_0.length : Int) - s0_1) = (s0_0.length : Int) - s0_1 := by unfold wrap64; omega
  have hI0 := hI
  obtain ⟨A, c, ev, hb, hc0, hc1, hc2, hfz, hr, hf⟩ := hI.open
  have hg := hI.ge
  have hlt := hI.lt
  by_cases h0 : s0_2 = 0
  case neg =>
    rw [if_pos h0] at h
    simp only [Option.some.injEq, Prod.mk.injEq] at h
    obtain ⟨rfl, rfl, rfl, rfl⟩ := h
    have d0 : decide (s0_2 = 0) = false := decide_eq_false h0
    go_enter Tryd.func41, Tryd.ntmps41
    go_wp2_with (go_at_call 71; refine (num_Reader_ok.walk g _ _ _ _ w0 w hI0).mono ?_; rintro e w' ⟨he, rfl⟩; rw [d0] at he; subst he)
    go_ret
    exact ⟨_, rfl, Kd.R_nil _ _ _ _ _, hI0, hB, KeepBut.refl _ _ _⟩
  rw [if_neg (by simp [h0])] at h
  have d0 : decide (s0_2 = 0) = true := decide_eq_true h0
  by_cases h1 : a1 < 0
  · rw [if_pos h1] at h
    simp only [Option.some.injEq, Prod.mk.injEq] at h
    obtain ⟨rfl, rfl, rfl, rfl⟩ := h
    have d1 : decide (a1 < 0) = true := decide_eq_true h1
    have hn : num_Reader_Fail.next s0_2 s0_1 s0_3 1 = (1, s0_1) := if_pos ⟨h0, by decide⟩
    have hF := num_Reader_Fail.walk g s0_0 s0_1 s0_2 s0_3 1 w0 w hI0 hB
    rw [hn] at hF
    go_enter Tryd.func41, Tryd.ntmps41
    go_wp2_with (first | (go_at_call 71; refine (num_Reader_ok.walk g _ _ _ _ w0 w hI0).mono ?_; rintro e w' ⟨he, rfl⟩; rw [d0] at he; subst he) | (go_at_call 38; refine hF.mono ?_; rintro e w1 ⟨rfl, hI1, hB1, hK1⟩))
    go_ret
    exact ⟨_, rfl, Kd.R_nil _ _ _ _ _, hI1, hB1, hK1⟩
  rw [if_neg h1] at h
  have d1 : decide (a1 < 0) = false := decide_eq_false h1
  by_cases h2 : (s0_0.length : Int) - s0_1 < a1
  · rw [if_pos h2] at h
    simp only [Option.some.injEq, Prod.mk.injEq] at h
    obtain ⟨rfl, rfl, rfl, rfl⟩ := h
    have d2 : decide ((s0_0.length : Int) - s0_1 < a1) = true := decide_eq_true h2
    have hn : num_Reader_Fail.next s0_2 s0_1 s0_3 2 = (2, s0_1) := if_pos ⟨h0, by decide⟩
    have hF := fun m => num_Reader_Fail.walk g s0_0 s0_1 s0_2 s0_3 2 w0 (w.drewN m) (hI0.drewN m) (pw_below_drewN hB m)
    rw [hn] at hF
    go_enter Tryd.func41, Tryd.ntmps41
    go_wp2_with (first | (go_at_call 71; refine (num_Reader_ok.walk g _ _ _ _ w0 w hI0).mono ?_; rintro e w' ⟨he, rfl⟩; rw [d0] at he; subst he) | (go_at_call 42; refine (num_Reader_Left.walk g _ _ _ _ w0 _ hI0).mono ?_; rintro e w' ⟨rfl, ⟨m, rfl⟩⟩; rw [hw]) | (go_at_call 38; refine (hF _).mono ?_; rintro e w1 ⟨rfl, hI1, hB1, hK1⟩))
    go_ret
    exact ⟨_, rfl, Kd.R_nil _ _ _ _ _, hI1, hB1, hK1⟩
  rw [if_neg h2] at h
  have d2 : decide ((s0_0.length : Int) - s0_1 < a1) = false := decide_eq_false h2
  simp only [Option.some.injEq, Prod.mk.injEq] at h
  obtain ⟨rfl, rfl, rfl, rfl⟩ := h
  have hw2 : wrap64 (s0_1 + a1) = s0_1 + a1 := by unfold wrap64; omega
  obtain ⟨hb1, hb2, hb3⟩ := hb0
  go_enter Tryd.func41, Tryd.ntmps41
  go_wp2_with (first | (go_at_call 71; refine (num_Reader_ok.walk g _ _ _ _ w0 w hI0).mono ?_; rintro e w' ⟨he, rfl⟩; rw [d0] at he; subst he) | (go_at_call 42; refine (num_Reader_Left.walk g _ _ _ _ w0 _ hI0).mono ?_; rintro e w' ⟨rfl, ⟨m, rfl⟩⟩; rw [hw]))
  have hI1 := (hI0.drewN m).set_1 (s0_1 + a1)
  have hB1 := (pw_below_drewN hB m).setCell (p := ⟨g, 1, none⟩) hg (.int .i64 (s0_1 + a1))
  have hK1 := KeepBut.set_ (keep_drewN (KeepBut.refl w' g none) m) 1 (.int .i64 (s0_1 + a1))
  generalize (w'.drewN m).setCell ⟨g, 1, none⟩ (.int .i64 (s0_1 + a1)) = W0 at hI1 hB1 hK1 ⊢
  have hw3 : wrap64 (s0_1 + a1 - a1) = s0_1 := by unfold wrap64; omega
  have hw5 : IntKind.i64.wrap (s0_1 + a1 - a1) = s0_1 := (IntKind.wrap_i64 _).trans (by omega)
  have hlen : ((s0_0.drop s0_1.toNat).take a1.toNat).length = a1.toNat := by rw [List.length_take, List.length_drop]; omega
  have hxy : (s0_0.take (s0_1 + a1).toNat).drop s0_1.toNat = (s0_0.drop s0_1.toNat).take a1.toNat := by rw [List.drop_take]; congr 1; omega
  have hst : (s0_1 + a1).toNat - s0_1.toNat = ((s0_0.drop s0_1.toNat).take a1.toNat).length := by rw [hlen]; omega
  have hl1 : s0_1 ≤ s0_1 + a1 := by omega
  have hl2 : s0_1 + a1 ≤ (s0_0.length : Int) := by omega
  have hl3 : (s0_1 + a1).toNat ≤ s0_0.length := by omega
  have hl4 : s0_1.toNat ≤ (s0_1 + a1).toNat := by omega
  have hfc : bytes_Clone.f ((s0_0.drop s0_1.toNat).take a1.toNat) = some ((s0_0.drop s0_1.toNat).take a1.toNat) := by unfold bytes_Clone.f; rw [if_pos (by rw [hlen]; omega)]
  have hsz0 : w'.heap.size ≤ W0.heap.size := hK1.1
  clear hc0 hc1 hc2 hr hf hb hfz hw2 hw hI hI0 h2 d2 d1 h1
  generalize hT : s0_1 + a1 = t1 at *
  generalize hL : (s0_0.drop s0_1.toNat).take a1.toNat = l1 at *
  have HT := Aside0.mk hT
  have HL := Aside0.mk hL
  clear hT hL
  have hI2 := hI1.drew
  rw [h0] at hI2
  obtain ⟨A1, c1, ev1, hbA, hcA0, hcA1, _, _, hrA, _⟩ := hI1.open
  obtain ⟨_, hcc, hC⟩ := Kd.R_reads' hrA
  have hmid := Kd.C_mid hC hl4 hl3 hcc
  rw [hxy] at hmid
  have hmid : (Kd.int .u8).C W0 (if c1 = s0_1.toNat then A1 else A1.map (fun x => x.add s0_1.toNat)) l1.length l1 := by simpa [Kd.int, Kd.scalar] using hmid
  have hle : l1.length ≤ c1 - s0_1.toNat := by omega
  have hl5 : t1 ≤ (c1 : Int) := by omega
  clear hrA hC hbA hxy hlen hl2 hl3 hl4 hb2 hb3
  have hKC : Kd.C (Kd.int .u8) W0.drew (if c1 = s0_1.toNat then A1 else A1.map (fun x => x.add s0_1.toNat)) l1.length l1 := Kd.C_below hmid (below_drew1 (Below.refl _ _))
  have hdr : Below W0.heap.size W0 W0.drew := below_drew1 (Below.refl _ _)
  by_cases hcs : c1 = s0_1.toNat
  · rw [if_pos hcs] at hKC
    subst hcs
    go_region_with (go_at_call 70; refine (bytes_Clone.calls _ _ l1 l1 W0.drew hKC (by omega) hfc).mono ?_; rintro e w1 ⟨v, rfl, hR, hB2⟩)
    all_goals (go_wp2; go_ret; exact ⟨_, rfl, by rw [HL.out]; exact Kd.R_lower hR hsz0, by rw [HT.out]; exact hI2.below hB2, below_step (below_drew1 hB1) hB2, (keep_drew hK1).trans (KeepBut.of_below hB2 g none) (.inl rfl)⟩)
  · rw [if_neg hcs] at hKC
    go_region_with (go_at_call 70; refine (bytes_Clone.calls _ _ l1 l1 W0.drew hKC hle hfc).mono ?_; rintro e w1 ⟨v, rfl, hR, hB2⟩)
    all_goals (go_wp2; go_ret; exact ⟨_, rfl, by rw [HL.out]; exact Kd.R_lower hR hsz0, by rw [HT.out]; exact hI2.below hB2, below_step (below_drew1 hB1) hB2, (keep_drew hK1).trans (KeepBut.of_below hB2 g none) (.inl rfl)⟩)

end Go.Proofs.YtieddojplhmhgaaDoor.PTextsGets
