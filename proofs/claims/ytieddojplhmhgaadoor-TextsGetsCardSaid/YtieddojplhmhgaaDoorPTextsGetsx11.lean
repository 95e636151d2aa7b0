/- WRITTEN BY A PROGRAM of this session (wip/tool: a turned copy of the printer), out of the translation: Lean functions with the answers of the Go functions, and the proofs that the Go code comes to them. -/
import Derived.Test.YtieddojplhmhgaaDoorPTextsGetsx0
import Derived.Test.YtieddojplhmhgaaDoorPTextsGetsx10
namespace Go.Proofs.YtieddojplhmhgaaDoor.PTextsGets
open Go.RowKit Go.Proofs.YtieddojplhmhgaaDoorW.PrintWords Go.Proofs.YtieddojplhmhgaaDoorW.PrintLast Go.Proofs.YtieddojplhmhgaaDoorW.PrintMore
attribute [local go_sem] max2_int min2_int max_two min_two max_three min_three max_four min_four   -- for this text's walks alone
set_option linter.unusedVariables false
set_option linter.unusedSimpArgs false

/-! ### estreatref13_List: function 66 -/
def estreatref13_List.l0 : Nat → List ByteArray → List ByteArray → Int → Option (List ByteArray)
  | 0, _, _, _ => none
  | k + 1, x0, x3, x4 => if x4 < (x0.length : Int) then (if 0 ≤ x4 then ((estreatref13_Place.f k x3 (rdOf ByteArray.empty x0 x4)).bind fun bt341 => (if bt341.2 = true then (estreatref13_List.l0 k x0 x3 (wrap64 (x4 + 1))) else ((some (([] : List ByteArray) : List ByteArray)).bind fun y343 => (if 0 ≤ bt341.1 then (if bt341.1 ≤ (x3.length : Int) then ((some (x3.take (bt341.1 : Int).toNat : List ByteArray)).bind fun y346 => (if y343.length + y346.length < 8796093022208 then ((some (y343 ++ y346 : List ByteArray)).bind fun y350 => (if y350.length < 8796093022208 then ((some (y350 ++ [rdOf ByteArray.empty x0 x4] : List ByteArray)).bind fun y354 => ((some (x3.drop (bt341.1 : Int).toNat : List ByteArray)).bind fun y357 => (if y354.length + y357.length < 8796093022208 then (estreatref13_List.l0 k x0 (y354 ++ y357) (wrap64 (x4 + 1))) else (none)))) else (none))) else (none))) else (none)) else (none))))) else (none)) else (some x3)
def estreatref13_List.f (k : Nat) (l0 : List ByteArray) : Option (List ByteArray) := estreatref13_List.l0 k l0 ([] : List ByteArray) 0
set_option maxHeartbeats 8000000 in
set_option maxRecDepth 100000 in
theorem estreatref13_List.calls (k : Nat) (A0 : Option Addr) (c0 : Nat) (l0 : List ByteArray) (r : List ByteArray) (w : World) (hr0 : Kd.C Kd.string w A0 l0.length l0) (hc0 : l0.length ≤ c0) (h : estreatref13_List.f k l0 = some r) :
    Calls Tryd.prog 66 #[.slice A0 l0.length c0] w fun e w' => ∃ v0_ : Value, e = .returned (v0_) ∧ Kd.R Kd.string 9 w' w.heap.size (fun _ => True) v0_ r ∧ Below w.heap.size w w' := by
  have HR0 := Aside0.mk hr0
  have HC0 := Aside0.mk hc0
  clear hr0 hc0
  have HB := Aside0.mk (Below.refl w.heap.size w)
  have H : (estreatref13_List.l0 k l0 ([] : List ByteArray) 0) = some r := h
  clear h
  have H' := Aside0.mk H
  clear H
  go_enter Tryd.func66, Tryd.ntmps66
  go_wp2
  go_loopg [3, 4] k (fun kq v3 v4 w' => ∃ (x3_1 : List ByteArray) (x4_1 : Int), v4 = .int .i64 x4_1 ∧ Aside0 (estreatref13_List.l0 kq l0 x3_1 x4_1 = some r) ∧ Aside0 (kq ≤ k) ∧ Aside0 (Kd.R Kd.string 9 w' w.heap.size (fun _ => True) v3 x3_1) ∧ Aside0 (Below w.heap.size w w'))
  case atStart => exact ⟨(([] : List ByteArray)), (0), (by first | rfl | (simp; done) | (simp [*]; done)), H', ⟨Nat.le_refl _⟩, ⟨by first | exact Kd.R_nil _ _ _ _ _ | exact Kd.N_nil _ _ _ _ _ | exact Kd.V_nil _ _ _ _ _ | exact Kd.Q_nil _ _ _ _ _ | exact Kd.S_nil _ _ _ _ _⟩, ⟨by repeat (first | (with_reducible first | exact HB.out | apply below_alloc | apply pw_below_drewN | apply below_drew1) | exact HB.out)⟩⟩
  case round =>
    clear H'
    obtain ⟨x3_1, x4_1, rfl, HA, HK1, HO_3, HB⟩ := hrel
    cases gk with
    | zero => exact absurd HA.out (by simp [estreatref13_List.l0])
    | succ k1 =>
      have H := HA.out
      clear HA
      simp only [estreatref13_List.l0] at H
      by_cases c2 : x4_1 < (l0.length : Int)
      · rw [if_pos c2] at H
        have c2b0 : decide (x4_1 < (l0.length : Int)) = true := decide_eq_true c2
        clear c2
        by_cases c3 : 0 ≤ x4_1
        · rw [if_pos c3] at H
          have c3b0 : decide (0 ≤ x4_1) = true := decide_eq_true c3
          clear c3
          replace H := Option.bind_eq_some_iff.mp H
          obtain ⟨⟨t341, t342⟩, A40, H⟩ := H
          replace H : (if t342 = true then (estreatref13_List.l0 k1 l0 x3_1 (wrap64 (x4_1 + 1))) else ((some (([] : List ByteArray) : List ByteArray)).bind fun y343 => (if 0 ≤ t341 then (if t341 ≤ (x3_1.length : Int) then ((some (x3_1.take (t341 : Int).toNat : List ByteArray)).bind fun y346 => (if y343.length + y346.length < 8796093022208 then ((some (y343 ++ y346 : List ByteArray)).bind fun y350 => (if y350.length < 8796093022208 then ((some (y350 ++ [rdOf ByteArray.empty l0 x4_1] : List ByteArray)).bind fun y354 => ((some (x3_1.drop (t341 : Int).toNat : List ByteArray)).bind fun y357 => (if y354.length + y357.length < 8796093022208 then (estreatref13_List.l0 k1 l0 (y354 ++ y357) (wrap64 (x4_1 + 1))) else (none)))) else (none))) else (none))) else (none)) else (none)))) = some r := H
          have A4 := Aside0.mk A40
          clear A40
          by_cases c5 : t342 = true
          · subst c5
            have H1 : (estreatref13_List.l0 k1 l0 x3_1 (wrap64 (x4_1 + 1))) = some r := by rw [if_pos rfl] at H; exact H
            clear H
            have H := H1
            clear H1
            have H' := Aside0.mk H
            clear H
            have p340 : 0 ≤ (x4_1 : Int) := of_decide_eq_true (by first | (with_reducible assumption) | assumption)
            have q340 : x4_1 < (l0.length : Int) := of_decide_eq_true (by first | (with_reducible assumption) | assumption)
            obtain ⟨ad340, e340, hx340_0⟩ := Kd.at_string HR0.out x4_1 p340 q340
            cases e340
            replace hx340_0 := (HB.out.cell (World.block_lt_of_cell? w _ hx340_0)).trans hx340_0
            replace p340 := eq_true p340
            replace q340 := eq_true q340
            obtain ⟨Ao6, co6, eo6⟩ := Kd.R_slice HO_3.out
            subst eo6
            go_wp2_with (first | ((with_reducible refine gate_callee (f := 88) rfl ?_); refine goesL_ (some 20) rfl rfl Tryd.func88 (by kernel_rfl) rfl #[.slice Ao6 x3_1.length co6, .string (rdOf ByteArray.empty l0 x4_1)] rfl (by (try simp only [List.map_toArray, List.map_cons, List.map_nil]); first | done | rfl | (simp only [List.length_drop, List.length_take]; rfl)) ?_; (with_reducible refine (estreatref13_Place.calls k1 _ _ x3_1 (rdOf ByteArray.empty l0 x4_1) t341 true _ ?side1 ?side2 A4.out).mono ?_); (case side1 => repeat (first | exact (Kd.R_reads' HO_3.out).2.2 | (with_reducible refine Kd.C_alloc ?_ _) | (with_reducible refine Kd.C_drewN ?_ _) | (with_reducible refine Kd.C_drew ?_))); (case side2 => exact (Kd.R_reads' HO_3.out).2.1); rintro e w' ⟨rfl, ⟨nd, rfl⟩⟩; refine ⟨_, rfl, ?_⟩))
            go_roundg k1
            case measure => have := HK1.out; omega
            case rel => exact ⟨(x3_1), (wrap64 (x4_1 + 1)), (by first | rfl | (simp; done) | (simp [*]; done)), H', ⟨by have := HK1.out; omega⟩, ⟨by (with_reducible repeat (first | apply Kd.R_alloc | apply Kd.R_drewN | apply Kd.R_drew)); exact HO_3.out⟩, ⟨by repeat (first | (with_reducible first | exact HB.out | apply below_alloc | apply pw_below_drewN | apply below_drew1) | exact HB.out)⟩⟩
          · replace c5 := Bool.eq_false_iff.mpr c5
            subst c5
            have H1 : ((some (([] : List ByteArray) : List ByteArray)).bind fun y343 => (if 0 ≤ t341 then (if t341 ≤ (x3_1.length : Int) then ((some (x3_1.take (t341 : Int).toNat : List ByteArray)).bind fun y346 => (if y343.length + y346.length < 8796093022208 then ((some (y343 ++ y346 : List ByteArray)).bind fun y350 => (if y350.length < 8796093022208 then ((some (y350 ++ [rdOf ByteArray.empty l0 x4_1] : List ByteArray)).bind fun y354 => ((some (x3_1.drop (t341 : Int).toNat : List ByteArray)).bind fun y357 => (if y354.length + y357.length < 8796093022208 then (estreatref13_List.l0 k1 l0 (y354 ++ y357) (wrap64 (x4_1 + 1))) else (none)))) else (none))) else (none))) else (none)) else (none))) = some r := by rw [if_neg (show ¬ (false = true) by decide)] at H; exact H
            clear H
            have H := H1
            clear H1
            obtain ⟨y343, hy343⟩ : ∃ y_ : List ByteArray, y_ = (([] : List ByteArray)) := ⟨_, rfl⟩
            replace H : (if 0 ≤ t341 then (if t341 ≤ (x3_1.length : Int) then ((some (x3_1.take (t341 : Int).toNat : List ByteArray)).bind fun y346 => (if y343.length + y346.length < 8796093022208 then ((some (y343 ++ y346 : List ByteArray)).bind fun y350 => (if y350.length < 8796093022208 then ((some (y350 ++ [rdOf ByteArray.empty l0 x4_1] : List ByteArray)).bind fun y354 => ((some (x3_1.drop (t341 : Int).toNat : List ByteArray)).bind fun y357 => (if y354.length + y357.length < 8796093022208 then (estreatref13_List.l0 k1 l0 (y354 ++ y357) (wrap64 (x4_1 + 1))) else (none)))) else (none))) else (none))) else (none)) else (none)) = some r := by first | (rw [hy343]; with_reducible exact H) | (have H2_ := (Option.bind_some _ _).symm.trans H; rw [hy343]; with_reducible exact H2_) | (have H2_ := (Option.bind_some _ _).symm.trans H; with_reducible exact H2_) | with_reducible exact H | (rw [hy343]; exact H) | exact H
            have Ny343 := Aside0.mk hy343
            clear hy343
            by_cases c7 : 0 ≤ t341
            · rw [if_pos c7] at H
              have c7b0 := eq_true c7
              have c7b1 : decide (0 ≤ t341) = true := decide_eq_true c7
              clear c7
              by_cases c8 : t341 ≤ (x3_1.length : Int)
              · rw [if_pos c8] at H
                have c8b0 := eq_true c8
                have c8b1 : decide (t341 ≤ (x3_1.length : Int)) = true := decide_eq_true c8
                clear c8
                obtain ⟨y346, hy346⟩ : ∃ y_ : List ByteArray, y_ = (x3_1.take (t341 : Int).toNat) := ⟨_, rfl⟩
                replace H : (if y343.length + y346.length < 8796093022208 then ((some (y343 ++ y346 : List ByteArray)).bind fun y350 => (if y350.length < 8796093022208 then ((some (y350 ++ [rdOf ByteArray.empty l0 x4_1] : List ByteArray)).bind fun y354 => ((some (x3_1.drop (t341 : Int).toNat : List ByteArray)).bind fun y357 => (if y354.length + y357.length < 8796093022208 then (estreatref13_List.l0 k1 l0 (y354 ++ y357) (wrap64 (x4_1 + 1))) else (none)))) else (none))) else (none)) = some r := by first | (rw [hy346]; with_reducible exact H) | (have H2_ := (Option.bind_some _ _).symm.trans H; rw [hy346]; with_reducible exact H2_) | (have H2_ := (Option.bind_some _ _).symm.trans H; with_reducible exact H2_) | with_reducible exact H | (rw [hy346]; exact H) | exact H
                have Ny346 := Aside0.mk hy346
                clear hy346
                by_cases c9 : y343.length + y346.length < 8796093022208
                · rw [if_pos c9] at H
                  have LMc9 := Aside0.mk c9
                  clear c9
                  obtain ⟨y350, hy350⟩ : ∃ y_ : List ByteArray, y_ = (y343 ++ y346) := ⟨_, rfl⟩
                  replace H : (if y350.length < 8796093022208 then ((some (y350 ++ [rdOf ByteArray.empty l0 x4_1] : List ByteArray)).bind fun y354 => ((some (x3_1.drop (t341 : Int).toNat : List ByteArray)).bind fun y357 => (if y354.length + y357.length < 8796093022208 then (estreatref13_List.l0 k1 l0 (y354 ++ y357) (wrap64 (x4_1 + 1))) else (none)))) else (none)) = some r := by first | (rw [hy350]; with_reducible exact H) | (have H2_ := (Option.bind_some _ _).symm.trans H; rw [hy350]; with_reducible exact H2_) | (have H2_ := (Option.bind_some _ _).symm.trans H; with_reducible exact H2_) | with_reducible exact H | (rw [hy350]; exact H) | exact H
                  have Ny350 := Aside0.mk hy350
                  clear hy350
                  by_cases c10 : y350.length < 8796093022208
                  · rw [if_pos c10] at H
                    have LMc10 := Aside0.mk c10
                    clear c10
                    obtain ⟨y354, hy354⟩ : ∃ y_ : List ByteArray, y_ = (y350 ++ [rdOf ByteArray.empty l0 x4_1]) := ⟨_, rfl⟩
                    replace H : ((some (x3_1.drop (t341 : Int).toNat : List ByteArray)).bind fun y357 => (if y354.length + y357.length < 8796093022208 then (estreatref13_List.l0 k1 l0 (y354 ++ y357) (wrap64 (x4_1 + 1))) else (none))) = some r := by first | (rw [hy354]; with_reducible exact H) | (have H2_ := (Option.bind_some _ _).symm.trans H; rw [hy354]; with_reducible exact H2_) | (have H2_ := (Option.bind_some _ _).symm.trans H; with_reducible exact H2_) | with_reducible exact H | (rw [hy354]; exact H) | exact H
                    have Ny354 := Aside0.mk hy354
                    clear hy354
                    have c11b0 := eq_true (of_decide_eq_true (by first | (with_reducible assumption) | assumption) : 0 ≤ t341)
                    have c12b0 := eq_true (of_decide_eq_true (by first | (with_reducible assumption) | assumption) : t341 ≤ (x3_1.length : Int))
                    obtain ⟨y357, hy357⟩ : ∃ y_ : List ByteArray, y_ = (x3_1.drop (t341 : Int).toNat) := ⟨_, rfl⟩
                    replace H : (if y354.length + y357.length < 8796093022208 then (estreatref13_List.l0 k1 l0 (y354 ++ y357) (wrap64 (x4_1 + 1))) else (none)) = some r := by first | (rw [hy357]; with_reducible exact H) | (have H2_ := (Option.bind_some _ _).symm.trans H; rw [hy357]; with_reducible exact H2_) | (have H2_ := (Option.bind_some _ _).symm.trans H; with_reducible exact H2_) | with_reducible exact H | (rw [hy357]; exact H) | exact H
                    have Ny357 := Aside0.mk hy357
                    clear hy357
                    by_cases c13 : y354.length + y357.length < 8796093022208
                    · rw [if_pos c13] at H
                      have LMc13 := Aside0.mk c13
                      clear c13
                      obtain ⟨y361, hy361⟩ : ∃ y_ : List ByteArray, y_ = (y354 ++ y357) := ⟨_, rfl⟩
                      replace H : (estreatref13_List.l0 k1 l0 y361 (wrap64 (x4_1 + 1))) = some r := by first | (rw [hy361]; with_reducible exact H) | (have H2_ := (Option.bind_some _ _).symm.trans H; rw [hy361]; with_reducible exact H2_) | (have H2_ := (Option.bind_some _ _).symm.trans H; with_reducible exact H2_) | with_reducible exact H | (rw [hy361]; exact H) | exact H
                      have Ny361 := Aside0.mk hy361
                      clear hy361
                      have H' := Aside0.mk H
                      clear H
                      have p340 : 0 ≤ (x4_1 : Int) := of_decide_eq_true (by first | (with_reducible assumption) | assumption)
                      have q340 : x4_1 < (l0.length : Int) := of_decide_eq_true (by first | (with_reducible assumption) | assumption)
                      obtain ⟨ad340, e340, hx340_0⟩ := Kd.at_string HR0.out x4_1 p340 q340
                      cases e340
                      replace hx340_0 := (HB.out.cell (World.block_lt_of_cell? w _ hx340_0)).trans hx340_0
                      replace p340 := eq_true p340
                      replace q340 := eq_true q340
                      obtain ⟨Ao14, co14, eo14⟩ := Kd.R_slice HO_3.out
                      subst eo14
                      go_wp2_with (first | ((with_reducible refine gate_callee (f := 88) rfl ?_); refine goesL_ (some 20) rfl rfl Tryd.func88 (by kernel_rfl) rfl #[.slice Ao14 x3_1.length co14, .string (rdOf ByteArray.empty l0 x4_1)] rfl (by (try simp only [List.map_toArray, List.map_cons, List.map_nil]); first | done | rfl | (simp only [List.length_drop, List.length_take]; rfl)) ?_; (with_reducible refine (estreatref13_Place.calls k1 _ _ x3_1 (rdOf ByteArray.empty l0 x4_1) t341 false _ ?side1 ?side2 A4.out).mono ?_); (case side1 => repeat (first | exact (Kd.R_reads' HO_3.out).2.2 | (with_reducible refine Kd.C_alloc ?_ _) | (with_reducible refine Kd.C_drewN ?_ _) | (with_reducible refine Kd.C_drew ?_))); (case side2 => exact (Kd.R_reads' HO_3.out).2.1); rintro e w' ⟨rfl, ⟨nd, rfl⟩⟩; refine ⟨_, rfl, ?_⟩) | ((with_reducible refine gate_dst (N := 25) rfl ?_); refine Kd.R_lit Kd.string _ 9 ?hg (N := 25) ?hd (xs := ([] : List ByteArray)) (inner := []) (ok := fun _ => True) (okp := fun _ => True) ?hr ?hp (fun _ hk => hk) trivial (Below.refl _ _) (Nat.le_refl _) (by simp) ?_; (case hd => rfl); (case hg => rfl); (case hr => first | (go_simp; done) | (go_simp; rfl)); (case hp => exact (Reps.none _ _)); intro v344 w15 ho16 hb hg_ hnew_; clear hg_ hnew_; (first | rw [← Ny343.out] at ho16 | (simp only [Int.reduceToNat] at ho16; rw [← Ny343.out] at ho16)); have n0_ := Aside0.mk (Kd.R_elder' (by (with_reducible repeat (first | apply Kd.R_alloc | apply Kd.R_drewN | apply Kd.R_drew)); exact HO_3.out) (Kd.R_base ho16) hb); have n1_ := Aside0.mk (Kd.R_lower (Kd.R_new' ho16 (Kd.R_lt (by (with_reducible repeat (first | apply Kd.R_alloc | apply Kd.R_drewN | apply Kd.R_drew)); exact HO_3.out))) (below_size (by repeat (first | (with_reducible first | exact HB.out | apply below_alloc | apply pw_below_drewN | apply below_drew1) | exact HB.out)))); have n2_ := Aside0.mk (below_step (by repeat (first | (with_reducible first | exact HB.out | apply below_alloc | apply pw_below_drewN | apply below_drew1) | exact HB.out)) hb); clear HO_3; clear HB; have HO_3 := n0_; have HO345 := n1_; have HB := n2_; clear n0_ n1_ n2_; clear hb ho16; have q17 : (t341 : Int) ≤ ((x3_1.length : Int) : Int) := of_decide_eq_true (by first | (with_reducible assumption) | assumption); obtain ⟨i017, hi017, _, hsz17, _⟩ := info_parts info9; have hroom17 : x3_1.length ≤ co14 := (Kd.R_reads' HO_3.out).2.1; have hC17 : Kd.C Kd.string _ Ao14 x3_1.length x3_1 := (Kd.R_reads' HO_3.out).2.2; have hcut17 := cut_to (P := Tryd.prog) 37 9 .i64 Tryd.underlying37 hi017 Ao14 x3_1.length co14 t341 (of_decide_eq_true (by first | (with_reducible assumption) | assumption)) q17 hroom17; have hr17 := Kd.C_take (m := (t341 : Int).toNat) hC17 (by omega); have hy17 : y346.length = (t341 : Int).toNat := (by rw [Ny346.out, List.length_take]; omega); rw [← Ny346.out] at hr17; rw [← hy17] at hcut17; have HR349 := Aside0.mk hr17; have HC349 := Aside0.mk (show y346.length ≤ co14 from by omega); clear hr17 hC17 hroom17 hi017 hsz17; have KY17 := Aside0.mk hy17; clear hy17; have KL17 := Aside0.mk (show (t341 : Int).toNat ≤ x3_1.length from by omega); replace q17 := eq_true q17) | ((with_reducible refine gate_builtin (b := .append) (xs := #[.tmp 25, .tmp 28]) rfl ?_); at_builtin; refine Kd.R_append_rows Kd.string (w0 := w) w.heap.size rfl (.tmp 25) (.tmp 28) 37 9 (.string ⟨#[]⟩) 16 rfl Tryd.underlying37 info9 rfl (by decide) (by omega) v344 y343 y346 _ _ _ (fun k_ => some k_ ≠ (.slice Ao14 x3_1.length co14 : Value).ownBlock) (fun _ => False) rfl rfl ?aO ?aR (fun _ _ h => h) (fun _ h => h.elim) ?aF ?aB ?aS ?aL ?_; (case aR => repeat (first | exact (by repeat (first | (with_reducible exact HR349.out) | (with_reducible refine Kd.C_alloc ?_ _) | (with_reducible refine Kd.C_drewN ?_ _) | (with_reducible refine Kd.C_drew ?_) | exact HR349.out)) | (with_reducible refine Kd.C_alloc ?_ _) | (with_reducible refine Kd.C_drewN ?_ _) | (with_reducible refine Kd.C_drew ?_))); (case aB => exact (by repeat (first | (with_reducible first | exact HB.out | apply below_alloc | apply pw_below_drewN | apply below_drew1) | exact HB.out))); (case aF => exact (fun k_ hk => Kd.fresh' (Kd.R_lt (by (with_reducible repeat (first | apply Kd.R_alloc | apply Kd.R_drewN | apply Kd.R_drew)); exact HO_3.out)) k_ hk)); (case aO => exact (by (with_reducible repeat (first | apply Kd.R_alloc | apply Kd.R_drewN | apply Kd.R_drew)); exact Kd.R_mono HO345.out (fun _ hk => hk.2))); (case aS => exact (below_size (by repeat (first | (with_reducible first | exact HB.out | apply below_alloc | apply pw_below_drewN | apply below_drew1) | exact HB.out)))); (case aL => have := LMc9.out; omega); intro v351 w18 ho hb hg hat; rw [← Ny350.out] at ho; have n0_ := Aside0.mk (Kd.R_after (ok := (fun _ => True)) (by (with_reducible repeat (first | apply Kd.R_alloc | apply Kd.R_drewN | apply Kd.R_drew)); exact HO_3.out) hg hat); have n1_ := Aside0.mk (hb); have n2_ := Aside0.mk ((show Kd.C Kd.string w18 Ao14 y346.length y346 from by rw [Ny346.out]; exact Kd.C_take (m := (t341 : Int).toNat) ((Kd.R_reads' (Kd.R_after (ok := (fun _ => True)) (by (with_reducible repeat (first | apply Kd.R_alloc | apply Kd.R_drewN | apply Kd.R_drew)); exact HO_3.out) hg hat)).2.2) KL17.out)); have n3_ := Aside0.mk (ho); clear HO_3; clear HB; clear HR349; clear HO345; have HO_3 := n0_; have HB := n1_; have HR349 := n2_; have HO352 := n3_; clear n0_ n1_ n2_ n3_; clear ho hb hg hat; have p353 : 0 ≤ (x4_1 : Int) := of_decide_eq_true (by first | (with_reducible assumption) | assumption); have q353 : x4_1 < (l0.length : Int) := of_decide_eq_true (by first | (with_reducible assumption) | assumption); obtain ⟨ad353, e353, hx353_0⟩ := Kd.at_string HR0.out x4_1 p353 q353; obtain rfl : ad340 = ad353 := (by injection e353); replace hx353_0 := (HB.out.cell (World.block_lt_of_cell? w _ hx353_0)).trans hx353_0; replace p353 := eq_true p353; replace q353 := eq_true q353) | ((with_reducible refine gate_builtin (b := .append) (xs := #[.tmp 30, .tmp 35]) rfl ?_); at_builtin; refine Kd.R_append Kd.string (w0 := w) w.heap.size rfl (.tmp 30) (.tmp 35) 37 9 (.string ⟨#[]⟩) 16 rfl Tryd.underlying37 info9 rfl (by decide) (by omega) v351 y350 (rdOf ByteArray.empty l0 x4_1) [.string (rdOf ByteArray.empty l0 x4_1)] (fun k_ => some k_ ≠ (.slice Ao14 x3_1.length co14 : Value).ownBlock) (fun _ => False) rfl rfl ?aP (fun _ hk => hk.elim) ?aF ?aO ?aB ?aS ?aL ?_; (case aP => exact rfl); (case aB => exact (by repeat (first | (with_reducible first | exact HB.out | apply below_alloc | apply pw_below_drewN | apply below_drew1) | exact HB.out))); (case aF => exact (fun k_ hk => Kd.fresh' (Kd.R_lt (by (with_reducible repeat (first | apply Kd.R_alloc | apply Kd.R_drewN | apply Kd.R_drew)); exact HO_3.out)) k_ hk)); (case aO => exact (by (with_reducible repeat (first | apply Kd.R_alloc | apply Kd.R_drewN | apply Kd.R_drew)); exact HO352.out)); (case aS => exact (below_size (by repeat (first | (with_reducible first | exact HB.out | apply below_alloc | apply pw_below_drewN | apply below_drew1) | exact HB.out)))); (case aL => have := LMc10.out; omega); intro v355 w19 ho hb hg hat; rw [← Ny354.out] at ho; have n0_ := Aside0.mk (Kd.R_after (ok := (fun _ => True)) (by (with_reducible repeat (first | apply Kd.R_alloc | apply Kd.R_drewN | apply Kd.R_drew)); exact HO_3.out) hg hat); have n1_ := Aside0.mk (hb); have n2_ := Aside0.mk ((show Kd.C Kd.string w19 Ao14 y346.length y346 from by rw [Ny346.out]; exact Kd.C_take (m := (t341 : Int).toNat) ((Kd.R_reads' (Kd.R_after (ok := (fun _ => True)) (by (with_reducible repeat (first | apply Kd.R_alloc | apply Kd.R_drewN | apply Kd.R_drew)); exact HO_3.out) hg hat)).2.2) KL17.out)); have n3_ := Aside0.mk (ho); clear HO_3; clear HB; clear HR349; clear HO352; have HO_3 := n0_; have HB := n1_; have HR349 := n2_; have HO356 := n3_; clear n0_ n1_ n2_ n3_; clear ho hb hg hat; have q20 : (t341 : Int) ≤ ((x3_1.length : Int) : Int) := of_decide_eq_true (by first | (with_reducible assumption) | assumption); obtain ⟨i020, hi020, _, hsz20, _⟩ := info_parts info9; have hroom20 : x3_1.length ≤ co14 := (Kd.R_reads' HO_3.out).2.1; have hC20 : Kd.C Kd.string _ Ao14 x3_1.length x3_1 := (Kd.R_reads' HO_3.out).2.2; have q020 : (0 : Int) ≤ (t341 : Int) := of_decide_eq_true (by first | (with_reducible assumption) | assumption); have hcut20 := cut_from (P := Tryd.prog) 37 9 .i64 Tryd.underlying37 hi020 1 hsz20 Ao14 x3_1.length co14 t341 q020 q20; have hr20 := Kd.C_drop (m := (t341 : Int).toNat) (c := co14) hC20 (by omega) hroom20; obtain ⟨A20, hA20⟩ : ∃ A1, A1 = (if co14 = (t341 : Int).toNat then Ao14 else (Ao14 : Option Addr).map (·.add ((t341 : Int).toNat * 1))) := ⟨_, rfl⟩; obtain ⟨c20, hc20⟩ : ∃ c1, c1 = co14 - (t341 : Int).toNat := ⟨_, rfl⟩; have hy20 : y357.length = x3_1.length - (t341 : Int).toNat := (by rw [Ny357.out, List.length_drop] <;> omega); rw [show (x3_1).drop (t341 : Int).toNat = y357 from Ny357.out.symm] at hr20; replace hr20 : Kd.C Kd.string _ A20 y357.length y357 := (by rw [hA20]; exact hr20); rw [← hy20, ← hA20, ← hc20] at hcut20; have HR360 := Aside0.mk hr20; have HC360 := Aside0.mk (show y357.length ≤ c20 from by rw [hy20, hc20]; exact Nat.sub_le_sub_right hroom20 _); clear hr20 hC20 hroom20 hi020 hsz20 hc20; have KY20 := Aside0.mk hy20; have KA20 := Aside0.mk hA20; clear hy20 hA20; have KL20 := Aside0.mk (show (t341 : Int).toNat ≤ x3_1.length from by omega); replace q20 := eq_true q20) | ((with_reducible refine gate_builtin (b := .append) (xs := #[.tmp 37, .tmp 40]) rfl ?_); at_builtin; refine Kd.R_append_rows Kd.string (w0 := w) w.heap.size rfl (.tmp 37) (.tmp 40) 37 9 (.string ⟨#[]⟩) 16 rfl Tryd.underlying37 info9 rfl (by decide) (by omega) v355 y354 y357 _ _ _ (fun k_ => some k_ ≠ (.slice Ao14 x3_1.length co14 : Value).ownBlock) (fun _ => False) rfl rfl ?aO ?aR (fun _ _ h => h) (fun _ h => h.elim) ?aF ?aB ?aS ?aL ?_; (case aR => repeat (first | exact (by repeat (first | (with_reducible exact HR360.out) | (with_reducible refine Kd.C_alloc ?_ _) | (with_reducible refine Kd.C_drewN ?_ _) | (with_reducible refine Kd.C_drew ?_) | exact HR360.out)) | (with_reducible refine Kd.C_alloc ?_ _) | (with_reducible refine Kd.C_drewN ?_ _) | (with_reducible refine Kd.C_drew ?_))); (case aB => exact (by repeat (first | (with_reducible first | exact HB.out | apply below_alloc | apply pw_below_drewN | apply below_drew1) | exact HB.out))); (case aF => exact (fun k_ hk => Kd.fresh' (Kd.R_lt (by (with_reducible repeat (first | apply Kd.R_alloc | apply Kd.R_drewN | apply Kd.R_drew)); exact HO_3.out)) k_ hk)); (case aO => exact (by (with_reducible repeat (first | apply Kd.R_alloc | apply Kd.R_drewN | apply Kd.R_drew)); exact HO356.out)); (case aS => exact (below_size (by repeat (first | (with_reducible first | exact HB.out | apply below_alloc | apply pw_below_drewN | apply below_drew1) | exact HB.out)))); (case aL => have := LMc13.out; omega); intro v362 w21 ho hb hg hat; rw [← Ny361.out] at ho; have n0_ := Aside0.mk (Kd.R_after (ok := (fun _ => True)) (by (with_reducible repeat (first | apply Kd.R_alloc | apply Kd.R_drewN | apply Kd.R_drew)); exact HO_3.out) hg hat); have n1_ := Aside0.mk (hb); have n2_ := Aside0.mk ((show Kd.C Kd.string w21 Ao14 y346.length y346 from by rw [Ny346.out]; exact Kd.C_take (m := (t341 : Int).toNat) ((Kd.R_reads' (Kd.R_after (ok := (fun _ => True)) (by (with_reducible repeat (first | apply Kd.R_alloc | apply Kd.R_drewN | apply Kd.R_drew)); exact HO_3.out) hg hat)).2.2) KL17.out)); have n3_ := Aside0.mk ((show Kd.C Kd.string w21 A20 y357.length y357 from by rw [Ny357.out, KA20.out]; exact Kd.C_drop (m := (t341 : Int).toNat) (c := co14) ((Kd.R_reads' (Kd.R_after (ok := (fun _ => True)) (by (with_reducible repeat (first | apply Kd.R_alloc | apply Kd.R_drewN | apply Kd.R_drew)); exact HO_3.out) hg hat)).2.2) KL20.out ((Kd.R_reads' (Kd.R_after (ok := (fun _ => True)) (by (with_reducible repeat (first | apply Kd.R_alloc | apply Kd.R_drewN | apply Kd.R_drew)); exact HO_3.out) hg hat)).2.1))); have n4_ := Aside0.mk (ho); clear HO_3; clear HB; clear HR349; clear HR360; clear HO356; have HO_3 := n0_; have HB := n1_; have HR349 := n2_; have HR360 := n3_; have HO363 := n4_; clear n0_ n1_ n2_ n3_ n4_; clear ho hb hg hat))
                      go_roundg k1
                      case measure => have := HK1.out; omega
                      case rel => exact ⟨(y361), (wrap64 (x4_1 + 1)), (by first | rfl | (simp; done) | (simp [*]; done)), H', ⟨by have := HK1.out; omega⟩, ⟨by (with_reducible repeat (first | apply Kd.R_alloc | apply Kd.R_drewN | apply Kd.R_drew)); exact Kd.R_mono HO363.out (fun _ hk => trivial)⟩, ⟨by repeat (first | (with_reducible first | exact HB.out | apply below_alloc | apply pw_below_drewN | apply below_drew1) | exact HB.out)⟩⟩
                    · rw [if_neg c13] at H
                      exact absurd H (by simp)
                  · rw [if_neg c10] at H
                    exact absurd H (by simp)
                · rw [if_neg c9] at H
                  exact absurd H (by simp)
              · rw [if_neg c8] at H
                exact absurd H (by simp)
            · rw [if_neg c7] at H
              exact absurd H (by simp)
        · rw [if_neg c3] at H
          exact absurd H (by simp)
      · rw [if_neg c2] at H
        have c2b0 : decide (x4_1 < (l0.length : Int)) = false := decide_eq_false c2
        clear c2
        obtain rfl := Option.some.inj H
        go_wp2
        go_ret
        exact ⟨_, by first | rfl | (simp [errW_none, errW_some] <;> rfl) | (simp [*, errW_none, errW_some] <;> rfl), by (with_reducible repeat (first | apply Kd.R_alloc | apply Kd.R_drewN | apply Kd.R_drew)); exact HO_3.out, by repeat (first | (with_reducible first | exact HB.out | apply below_alloc | apply pw_below_drewN | apply below_drew1) | exact HB.out)⟩

end Go.Proofs.YtieddojplhmhgaaDoor.PTextsGets
