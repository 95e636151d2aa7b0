/- WRITTEN BY A PROGRAM of this session (wip/tool: a turned copy of the printer), out of the translation: Lean functions with the answers of the Go functions, and the proofs that the Go code comes to them. -/
import Derived.Test.YtehbkhddbdgbcaaGreatDoorPChunkBackx1
import Derived.Test.YtehbkhddbdgbcaaGreatDoorPChunkBackx2
import Derived.Test.YtehbkhddbdgbcaaGreatDoorPChunkBackx5
namespace Go.Proofs.YtehbkhddbdgbcaaGreatDoor.PChunkBack
open Go.RowKit Go.Proofs.YtehbkhddbdgbcaaGreatDoorW.PrintWords Go.Proofs.YtehbkhddbdgbcaaGreatDoorW.PrintLast Go.Proofs.YtehbkhddbdgbcaaGreatDoorW.PrintMore
attribute [local go_sem] max2_int min2_int max_two min_two max_three min_three max_four min_four   -- for this text's walks alone
set_option linter.unusedVariables false
set_option linter.unusedSimpArgs false

/-! ### bits_Pack: function 62 -/
mutual
def bits_Pack.l0 : Nat → Int → List Int → Int → List Int → Int → Int → Option (List Int × Int)
 | 0, _, _, _, _, _, _ => none
 | k + 1, x1, x7, x8, x22, x23, x24 => if x24 < x23 then (if 0 ≤ x24 then (if x24 < (x22.length : Int) then ((bits_fits.f (rd x22 x24) x1).bind fun t176 => (if t176 = true then (bits_Pack.l1 k x1 x7 x8 (rd x22 x24) x1 x22 x23 x24) else (some (([] : List Int), 5)))) else (none)) else (none)) else (some (x7, 0))
def bits_Pack.l1 : Nat → Int → List Int → Int → Int → Int → List Int → Int → Int → Option (List Int × Int)
 | 0, _, _, _, _, _, _, _, _ => none
 | k + 1, x1, x7, x8, x10, x11, x22, x23, x24 => if x11 > 0 then (if 0 ≤ (wrap64 (Int.tdiv x8 8)) then (if (wrap64 (Int.tdiv x8 8)) < (x7.length : Int) then (if 0 ≤ (IntKind.u64.wrap (Int.tmod x8 8)) then (if 0 ≤ (IntKind.u64.wrap (mn (wrap64 (8 - (Int.tmod x8 8))) x11)) then (bits_Pack.l1 k x1 (x7.set ((wrap64 (Int.tdiv x8 8)) : Int).toNat (Go.bits .or .u8 (rd x7 (wrap64 (Int.tdiv x8 8))) (shl .u8 ((x10) % 256) (IntKind.u64.wrap (Int.tmod x8 8))))) (wrap64 (x8 + (mn (wrap64 (8 - (Int.tmod x8 8))) x11))) (shr .u64 x10 (IntKind.u64.wrap (mn (wrap64 (8 - (Int.tmod x8 8))) x11))) (wrap64 (x11 - (mn (wrap64 (8 - (Int.tmod x8 8))) x11))) x22 x23 x24) else (none)) else (none)) else (none)) else (none)) else (bits_Pack.l0 k x1 x7 x8 x22 x23 (wrap64 (x24 + 1)))
end
def bits_Pack.f (k : Nat) (l0 : List Int) (a1 : Int) : Option (List Int × Int) := (bits_Size.f (l0.length : Int) a1).bind fun t171 => (if t171 < 0 then (some (([] : List Int), 1)) else (if 0 ≤ t171 then (if (t171 : Int).toNat ≤ 281474976710656 then (bits_Pack.l0 k a1 (List.replicate (t171 : Int).toNat 0) 0 l0 (l0.length : Int) 0) else (none)) else (none)))
set_option maxHeartbeats 8000000 in
set_option maxRecDepth 100000 in
theorem bits_Pack.calls (k : Nat) (A0 : Option Addr) (c0 : Nat) (l0 : List Int) (a1 : Int) (r1 : List Int) (r2 : Int) (w : World) (hr0 : Kd.C (Kd.int .u64) w A0 l0.length l0) (hc0 : l0.length ≤ c0) (h : bits_Pack.f k l0 a1 = some (r1, r2)) :
  Calls Tryz.prog 62 #[.slice A0 l0.length c0, .int .i64 a1] w fun e w' => ∃ v0_ : Value, e = .returned (.tuple #[v0_, .int .i64 r2]) ∧ Kd.R (Kd.int .u8) 5 w' w.heap.size (fun _ => True) v0_ r1 ∧ Below w.heap.size w w' := by
 have HR0 := Aside0.mk hr0; have HC0 := Aside0.mk hc0; clear hr0 hc0; have HB := Aside0.mk (Below.refl w.heap.size w); have H : ((bits_Size.f (l0.length : Int) a1).bind fun t171 => (if t171 < 0 then (some (([] : List Int), 1)) else (if 0 ≤ t171 then (if (t171 : Int).toNat ≤ 281474976710656 then (bits_Pack.l0 k a1 (List.replicate (t171 : Int).toNat 0) 0 l0 (l0.length : Int) 0) else (none)) else (none)))) = some (r1, r2) := h; clear h; replace H := Option.bind_eq_some_iff.mp H; obtain ⟨t171, A30, H⟩ := H; (try dsimp only at H); have A3 := Aside0.mk A30; clear A30
 by_cases c4 : t171 < 0
 ·rw [if_pos c4] at H; have c4b0 := decide_eq_true c4; clear c4; simp only [Option.some.injEq, Prod.mk.injEq] at H; obtain ⟨rfl, rfl⟩ := H; go_enter Tryz.func62, Tryz.ntmps62
  go_wp2_with (first | (go_at_call 68; (with_reducible refine (bits_Size.calls (l0.length : Int) a1 t171 _ A3.out).mono ?_); rintro e w' ⟨rfl, ⟨nd, rfl⟩⟩))
  go_ret2
  exact ⟨_, ER, by first | exact Kd.R_nil _ _ _ _ _ | exact Kd.N_nil _ _ _ _ _ | exact Kd.V_nil _ _ _ _ _ | exact Kd.Q_nil _ _ _ _ _ | exact Kd.S_nil _ _ _ _ _, BU HB.out⟩
 ·rw [if_neg c4] at H; have c4b0 := decide_eq_false c4; clear c4
  by_cases c5 : 0 ≤ t171
  ·rw [if_pos c5] at H; have c5b0 := eq_true c5; have c5b1 := decide_eq_true c5; clear c5
   by_cases c6 : (t171 : Int).toNat ≤ 281474976710656
   ·rw [if_pos c6] at H; have c6b0 := eq_true c6; have c6b1 := decide_eq_true c6; clear c6
    obtain ⟨y172, hy172⟩ : ∃ y_ : List Int, y_ = (List.replicate (t171 : Int).toNat 0) := ⟨_, rfl⟩
    replace H : (bits_Pack.l0 k a1 y172 0 l0 (l0.length : Int) 0) = some (r1, r2) := HY hy172 H; have Ny172 := Aside0.mk hy172; clear hy172; have H' := Aside0.mk H; clear H; go_enter Tryz.func62, Tryz.ntmps62
    go_wp2_with (first | (go_at_call 68; (with_reducible refine (bits_Size.calls (l0.length : Int) a1 t171 _ A3.out).mono ?_); rintro e w' ⟨rfl, ⟨nd, rfl⟩⟩) | ((with_reducible refine gate_dst (N := 21) rfl ?_); refine Kd.R_make (Kd.int .u8) _ 5 rfl (N := 21) rfl 25 _ _ rfl t171 rfl rfl Tryz.underlying25 (.int .u8 0) 1 info5 rfl (by decide) (by omega) 0 (ok := fun _ => True) (okp := fun _ => True) rfl (fun _ hk => hk) trivial (OD) (Nat.le_trans (Nat.mul_le_mul_right _ (OD : t171.toNat ≤ 281474976710656)) (by omega)) (Below.refl _ _) (Nat.le_refl _) ?_; intro v173 w7 ho8 hb hg_ hnew_; clear hg_ hnew_; (first | rw [← Ny172.out] at ho8 | (simp only [Int.reduceToNat] at ho8; rw [← Ny172.out] at ho8)); have HO174 := Aside0.mk (Kd.R_lower ho8 (below_size (BU HB.out))); replace HB := Aside0.mk (below_step (BU HB.out) hb); clear hb ho8))
    go_loopg [8, 24] k (fun kq v8 v24 w' => ∃ (x7_1 : List Int) (x8_1 : Int) (x24_1 : Int), v8 = .int .i64 x8_1 ∧ v24 = .int .i64 x24_1 ∧ Aside0 (bits_Pack.l0 kq a1 x7_1 x8_1 l0 (l0.length : Int) x24_1 = some (r1, r2)) ∧ Aside0 (kq ≤ k) ∧ Aside0 (Kd.R (Kd.int .u8) 5 w' w.heap.size (fun _ => True) v173 x7_1) ∧ Aside0 (Below w.heap.size w w'))
    case atStart => exact ⟨(y172), (0), (0), EB, EB, H', ⟨Nat.le_refl _⟩, ⟨RU HO174.out⟩, ⟨BU HB.out⟩⟩
    case round =>
     clear H'; (try clear p2); (try clear c4); (try clear c4b0); (try clear c5); (try clear c5b0); (try clear c5b1); (try clear c6); (try clear c6b0); (try clear c6b1); obtain ⟨x7_1, x8_1, x24_1, rfl, rfl, HA, HK1, HO_7, HB⟩ := hrel
     cases gk with
     | zero => exact absurd HA.out (by simp [bits_Pack.l0])
     | succ k1 =>
      have H := HA.out; clear HA; simp only [bits_Pack.l0] at H
      by_cases c9 : x24_1 < (l0.length : Int)
      ·rw [if_pos c9] at H; have c9b0 := decide_eq_true c9; clear c9
       by_cases c10 : 0 ≤ x24_1
       ·rw [if_pos c10] at H; have c10b0 := decide_eq_true c10; clear c10
        by_cases c11 : x24_1 < (l0.length : Int)
        ·rw [if_pos c11] at H; have c11b0 := decide_eq_true c11; clear c11; replace H := Option.bind_eq_some_iff.mp H; obtain ⟨t176, A120, H⟩ := H; (try dsimp only at H); have A12 := Aside0.mk A120; clear A120
         by_cases c13 : t176 = true
         ·subst c13
          have H1 : (bits_Pack.l1 k1 a1 x7_1 x8_1 (rd l0 x24_1) a1 l0 (l0.length : Int) x24_1) = some (r1, r2) := by rw [if_pos rfl] at H; exact H
          clear H; have H := H1; clear H1; have H' := Aside0.mk H; clear H; have p175 : 0 ≤ (x24_1 : Int) := OD; have q175 : x24_1 < (l0.length : Int) := OD; obtain ⟨ad175, e175, hx175_0⟩ := Kd.at_int HR0.out x24_1 p175 q175
          cases e175
          replace hx175_0 := (HB.out.cell (World.block_lt_of_cell? w _ hx175_0)).trans hx175_0; replace p175 := eq_true p175; replace q175 := eq_true q175
          go_wp2_with (first | (go_at_call 91; (with_reducible refine (bits_fits.calls (rd l0 x24_1) a1 true _ A12.out).mono ?_); rintro e w' ⟨rfl, ⟨nd, rfl⟩⟩))
          go_loopg [8, 10, 11] k1 (fun kq v8 v10 v11 w' => ∃ (x7_2 : List Int) (x8_2 : Int) (x10_2 : Int) (x11_2 : Int), v8 = .int .i64 x8_2 ∧ v10 = .int .u64 x10_2 ∧ v11 = .int .i64 x11_2 ∧ Aside0 (bits_Pack.l1 kq a1 x7_2 x8_2 x10_2 x11_2 l0 (l0.length : Int) x24_1 = some (r1, r2)) ∧ Aside0 (kq ≤ k1) ∧ Aside0 (Kd.R (Kd.int .u8) 5 w' w.heap.size (fun _ => True) v173 x7_2) ∧ Aside0 (Below w.heap.size w w'))
          case atStart => exact ⟨(x7_1), (x8_1), (rd l0 x24_1), (a1), EB, EB, EB, H', ⟨Nat.le_refl _⟩, ⟨RU HO_7.out⟩, ⟨BU HB.out⟩⟩
          case round =>
           clear H'; (try clear c1); (try clear p1); (try clear q1); (try clear hx1); (try clear p2); (try clear c4); (try clear c4b0); (try clear c5); (try clear c5b0); (try clear c5b1); (try clear c6); (try clear c6b0); (try clear c6b1); (try clear c9); (try clear c9b0); (try clear c10); (try clear c10b0); (try clear c11); (try clear c11b0); (try clear c13); (try clear hx175_0); (try clear p175); (try clear p2); (try clear q175); obtain ⟨x7_2, x8_2, x10_2, x11_2, rfl, rfl, rfl, HA, HK2, HO_7, HB⟩ := hrel
           cases gk with
           | zero => exact absurd HA.out (by simp [bits_Pack.l1])
           | succ k2 =>
            have H := HA.out; clear HA; simp only [bits_Pack.l1] at H
            by_cases c14 : x11_2 > 0
            ·rw [if_pos c14] at H; have c14b0 : decide (0 < x11_2) = true := decide_eq_true c14; clear c14
             obtain ⟨ji15, hji15⟩ : ∃ j_ : Int, (mn (wrap64 (8 - (Int.tmod x8_2 8))) x11_2) = j_ := ⟨_, rfl⟩
             replace H : (if 0 ≤ (wrap64 (Int.tdiv x8_2 8)) then (if (wrap64 (Int.tdiv x8_2 8)) < (x7_2.length : Int) then (if 0 ≤ (IntKind.u64.wrap (Int.tmod x8_2 8)) then (if 0 ≤ (IntKind.u64.wrap (ji15)) then (bits_Pack.l1 k2 a1 (x7_2.set ((wrap64 (Int.tdiv x8_2 8)) : Int).toNat (Go.bits .or .u8 (rd x7_2 (wrap64 (Int.tdiv x8_2 8))) (shl .u8 ((x10_2) % 256) (IntKind.u64.wrap (Int.tmod x8_2 8))))) (wrap64 (x8_2 + (ji15))) (shr .u64 x10_2 (IntKind.u64.wrap (ji15))) (wrap64 (x11_2 - (ji15))) l0 (l0.length : Int) x24_1) else (none)) else (none)) else (none)) else (none)) = some (r1, r2) := by first | (rw [hji15] at H; exact H) | (simp only [hji15] at H ⊢; exact H)
             have hji15_ : (if x11_2 < (wrap64 (8 - (Int.tmod x8_2 8))) then x11_2 else (wrap64 (8 - (Int.tmod x8_2 8)))) = ji15 := hji15
             obtain ⟨ji16, hji16⟩ : ∃ j_ : Int, (wrap64 (Int.tdiv x8_2 8)) = j_ := ⟨_, rfl⟩
             replace H : (if 0 ≤ (ji16) then (if (ji16) < (x7_2.length : Int) then (if 0 ≤ (IntKind.u64.wrap (Int.tmod x8_2 8)) then (if 0 ≤ (IntKind.u64.wrap (ji15)) then (bits_Pack.l1 k2 a1 (x7_2.set ((ji16) : Int).toNat (Go.bits .or .u8 (rd x7_2 (ji16)) (shl .u8 ((x10_2) % 256) (IntKind.u64.wrap (Int.tmod x8_2 8))))) (wrap64 (x8_2 + (ji15))) (shr .u64 x10_2 (IntKind.u64.wrap (ji15))) (wrap64 (x11_2 - (ji15))) l0 (l0.length : Int) x24_1) else (none)) else (none)) else (none)) else (none)) = some (r1, r2) := by first | (rw [hji16] at H; exact H) | (simp only [hji16] at H ⊢; exact H)
             have hji16w : (IntKind.i64.wrap (Int.tdiv x8_2 8)) = ji16 := (i64_w _).trans hji16
             by_cases c17 : 0 ≤ (ji16)
             ·rw [if_pos c17] at H; have c17b0 := decide_eq_true c17; clear c17
              by_cases c18 : (ji16) < (x7_2.length : Int)
              ·rw [if_pos c18] at H; have c18b0 := decide_eq_true c18; clear c18
               obtain ⟨ji19, hji19⟩ : ∃ j_ : Int, (IntKind.u64.wrap (Int.tmod x8_2 8)) = j_ := ⟨_, rfl⟩
               replace H : (if 0 ≤ (ji19) then (if 0 ≤ (IntKind.u64.wrap (ji15)) then (bits_Pack.l1 k2 a1 (x7_2.set ((ji16) : Int).toNat (Go.bits .or .u8 (rd x7_2 (ji16)) (shl .u8 ((x10_2) % 256) (ji19)))) (wrap64 (x8_2 + (ji15))) (shr .u64 x10_2 (IntKind.u64.wrap (ji15))) (wrap64 (x11_2 - (ji15))) l0 (l0.length : Int) x24_1) else (none)) else (none)) = some (r1, r2) := by first | (rw [hji19] at H; exact H) | (simp only [hji19] at H ⊢; exact H)
               by_cases c20 : 0 ≤ (ji19)
               ·rw [if_pos c20] at H; have c20b0 := eq_true c20; have c20b1 := decide_eq_true c20; clear c20
                obtain ⟨ji21, hji21⟩ : ∃ j_ : Int, (shl .u8 ((x10_2) % 256) (ji19)) = j_ := ⟨_, rfl⟩
                replace H : (if 0 ≤ (IntKind.u64.wrap (ji15)) then (bits_Pack.l1 k2 a1 (x7_2.set ((ji16) : Int).toNat (Go.bits .or .u8 (rd x7_2 (ji16)) (ji21))) (wrap64 (x8_2 + (ji15))) (shr .u64 x10_2 (IntKind.u64.wrap (ji15))) (wrap64 (x11_2 - (ji15))) l0 (l0.length : Int) x24_1) else (none)) = some (r1, r2) := by first | (rw [hji21] at H; exact H) | (simp only [hji21] at H ⊢; exact H)
                have hji21_ : (IntKind.u8.wrap (((x10_2) % 256) * 2 ^ min (ji19).toNat 8)) = ji21 := hji21; have hji21z : (ji19) ≤ 8 → (IntKind.u8.wrap (((x10_2) % 256) * 2 ^ (ji19).toNat)) = ji21 := shl_small hji21
                obtain ⟨y178, hy178⟩ : ∃ y_ : List Int, y_ = (x7_2.set ((ji16) : Int).toNat (Go.bits .or .u8 (rd x7_2 (ji16)) (ji21))) := ⟨_, rfl⟩
                replace H : (if 0 ≤ (IntKind.u64.wrap (ji15)) then (bits_Pack.l1 k2 a1 y178 (wrap64 (x8_2 + (ji15))) (shr .u64 x10_2 (IntKind.u64.wrap (ji15))) (wrap64 (x11_2 - (ji15))) l0 (l0.length : Int) x24_1) else (none)) = some (r1, r2) := HY hy178 H; have Ny178 := Aside0.mk hy178; clear hy178
                obtain ⟨ji23, hji23⟩ : ∃ j_ : Int, (IntKind.u64.wrap (ji15)) = j_ := ⟨_, rfl⟩
                replace H : (if 0 ≤ (ji23) then (bits_Pack.l1 k2 a1 y178 (wrap64 (x8_2 + (ji15))) (shr .u64 x10_2 (ji23)) (wrap64 (x11_2 - (ji15))) l0 (l0.length : Int) x24_1) else (none)) = some (r1, r2) := by first | (rw [hji23] at H; exact H) | (simp only [hji23] at H ⊢; exact H)
                by_cases c24 : 0 ≤ (ji23)
                ·rw [if_pos c24] at H; have c24b0 := eq_true c24; have c24b1 := decide_eq_true c24; clear c24
                 obtain ⟨ji25, hji25⟩ : ∃ j_ : Int, (shr .u64 x10_2 (ji23)) = j_ := ⟨_, rfl⟩
                 replace H : (bits_Pack.l1 k2 a1 y178 (wrap64 (x8_2 + (ji15))) ji25 (wrap64 (x11_2 - (ji15))) l0 (l0.length : Int) x24_1) = some (r1, r2) := by first | (rw [hji25] at H; exact H) | (simp only [hji25] at H ⊢; exact H)
                 have hji25_ : (x10_2 / 2 ^ min (ji23).toNat 64) = ji25 := hji25; have hji25z : (ji23) ≤ 64 → (x10_2 / 2 ^ (ji23).toNat) = ji25 := shr_small hji25; have H' := Aside0.mk H; clear H; obtain ⟨Ao26, co26, eo26⟩ := Kd.R_slice HO_7.out; subst eo26; have p177 : 0 ≤ ((ji16) : Int) := OD; have q177 : (ji16) < (x7_2.length : Int) := OD; obtain ⟨ad177, e177, hx177_0⟩ := Kd.at_int (Kd.R_reads' HO_7.out).2.2 (ji16) p177 q177
                 cases e177
                 replace p177 := eq_true p177; replace q177 := eq_true q177; have p22 : 0 ≤ ((ji16) : Int) := OD; have q22 : ((ji16) : Int) < ((x7_2.length : Int) : Int) := OD; obtain ⟨go22, co22, eo22, gb22, gl22, cl22, HG22⟩ := Kd.R_form HO_7.out (by omega)
                 (first | cases eo22 | (injection eo22 with ea_ en_ ec_; (first | subst ea_ | (injection ea_ with ea_; subst ea_)); subst ec_; clear en_))
                 have GB22 := Aside0.mk gb22; have GG22 := Aside0.mk HG22; clear gb22 gl22 HG22
                 (first | simp only [add_plain] at hx177_0 | skip)
                 obtain ⟨hx22_0, hf22_0⟩ := Kd.R_celln 0 HO_7.out ((ji16) : Int) p22 q22; replace p22 := eq_true p22; replace q22 := eq_true q22; have HP27 := Kd.R_putg HO_7.out ((ji16) : Int) (Go.bits .or .u8 (rd x7_2 (ji16)) (ji21))
                 go_wp2_with (first | ((with_reducible refine gate_store (t := 5) (p := 53) rfl ?_); refine store_event (t := 5) (p := 53) (v := ?vo_w28) (w1 := (wr.setCell ⟨go22, ((ji16) : Int).toNat, none⟩ (.int .u8 (Go.bits .or .u8 (rd x7_2 (ji16)) (ji21))))) ?hg ?ho ?hn ?hr ?_; (case ho => rfl); (case hg => rfl); (case hn => rfl); (case hr => first | (go_simp; done) | (go_simp; rfl)); intro w28 hw; have hg : wr.grownBy w28 (some go22) := (by rw [hw]; exact HP27.2); have hp_ : Kd.R (Kd.int .u8) 5 w28 w.heap.size (fun _ => True) (.slice (some ⟨go22, 0, none⟩) x7_2.length co26) y178 := (by rw [hw, Ny178.out]; exact HP27.1); clear HP27; replace HO_7 := Aside0.mk hp_; replace HB := Aside0.mk ((by rw [hw]; exact below_set (HB.out) GB22.out : Below w.heap.size w w28)); clear hg hw hp_))
                 go_roundg k2
                 case measure => have := HK1.out; have := HK2.out; omega
                 case rel => exact ⟨(y178), (wrap64 (x8_2 + (ji15))), (ji25), (wrap64 (x11_2 - (ji15))), (by first | rfl | (simp; done) | (simp only [← hji15] <;> (first | rfl | simp)) | (simp [*]; done)), (by first | rfl | (simp; done) | (simp only [← hji25] <;> (first | rfl | simp)) | (simp [*]; done)), (by first | rfl | (simp; done) | (simp only [← hji15] <;> (first | rfl | simp)) | (simp [*]; done)), H', ⟨by have := HK1.out; have := HK2.out; omega⟩, ⟨RU HO_7.out⟩, ⟨BU HB.out⟩⟩
                ·rw [if_neg c24] at H; exact absurd H (by simp)
               ·rw [if_neg c20] at H; exact absurd H (by simp)
              ·rw [if_neg c18] at H; exact absurd H (by simp)
             ·rw [if_neg c17] at H; exact absurd H (by simp)
            ·rw [if_neg c14] at H; have c14b0 : decide (0 < x11_2) = false := decide_eq_false c14; clear c14; have H' := Aside0.mk H; clear H; go_wp2; go_roundg k2
             case measure => have := HK1.out; have := HK2.out; omega
             case rel => exact ⟨(x7_2), (x8_2), (wrap64 (x24_1 + 1)), EB, EB, H', ⟨by have := HK1.out; have := HK2.out; omega⟩, ⟨RU HO_7.out⟩, ⟨BU HB.out⟩⟩
         ·replace c13 := Bool.eq_false_iff.mpr c13; subst c13
          have H1 : (some (([] : List Int), 5)) = some (r1, r2) := by rw [if_neg (show ¬ (false = true) by decide)] at H; exact H
          clear H; have H := H1; clear H1; simp only [Option.some.injEq, Prod.mk.injEq] at H; obtain ⟨rfl, rfl⟩ := H; have p175 : 0 ≤ (x24_1 : Int) := OD; have q175 : x24_1 < (l0.length : Int) := OD; obtain ⟨ad175, e175, hx175_0⟩ := Kd.at_int HR0.out x24_1 p175 q175
          cases e175
          replace hx175_0 := (HB.out.cell (World.block_lt_of_cell? w _ hx175_0)).trans hx175_0; replace p175 := eq_true p175; replace q175 := eq_true q175
          go_wp2_with (first | (go_at_call 91; (with_reducible refine (bits_fits.calls (rd l0 x24_1) a1 false _ A12.out).mono ?_); rintro e w' ⟨rfl, ⟨nd, rfl⟩⟩))
          go_ret2
          exact ⟨_, ER, by first | exact Kd.R_nil _ _ _ _ _ | exact Kd.N_nil _ _ _ _ _ | exact Kd.V_nil _ _ _ _ _ | exact Kd.Q_nil _ _ _ _ _ | exact Kd.S_nil _ _ _ _ _, BU HB.out⟩
        ·rw [if_neg c11] at H; exact absurd H (by simp)
       ·rw [if_neg c10] at H; exact absurd H (by simp)
      ·rw [if_neg c9] at H; have c9b0 := decide_eq_false c9; clear c9; simp only [Option.some.injEq, Prod.mk.injEq] at H; obtain ⟨rfl, rfl⟩ := H; go_wp2
       go_ret2
       exact ⟨_, ER, RU HO_7.out, BU HB.out⟩
   ·rw [if_neg c6] at H; exact absurd H (by simp)
  ·rw [if_neg c5] at H; exact absurd H (by simp)

/-! ### delta_zigs: function 74 -/
def delta_zigs.l0 : Nat → List Int → List Int → Int → Int → Option (List Int)
 | 0, _, _, _, _ => none
 | k + 1, x3, x6, x7, x8 => if x8 < x7 then (if 0 ≤ x8 then (if x8 < (x6.length : Int) then ((num_Zig.f (rd x6 x8)).bind fun t180 => (if x3.length < 17592186044416 then (delta_zigs.l0 k (x3 ++ [t180]) x6 x7 (wrap64 (x8 + 1))) else (none))) else (none)) else (none)) else (some x3)
def delta_zigs.f (k : Nat) (l0 : List Int) : Option (List Int) := delta_zigs.l0 k ([] : List Int) l0 (l0.length : Int) 0
set_option maxHeartbeats 8000000 in
set_option maxRecDepth 100000 in
theorem delta_zigs.calls (k : Nat) (A0 : Option Addr) (c0 : Nat) (l0 : List Int) (r : List Int) (w : World) (hr0 : Kd.C (Kd.int .i64) w A0 l0.length l0) (hc0 : l0.length ≤ c0) (h : delta_zigs.f k l0 = some r) :
  Calls Tryz.prog 74 #[.slice A0 l0.length c0] w fun e w' => ∃ v0_ : Value, e = .returned (v0_) ∧ Kd.R (Kd.int .u64) 75 w' w.heap.size (fun _ => True) v0_ r ∧ Below w.heap.size w w' := by
 have HR0 := Aside0.mk hr0; have HC0 := Aside0.mk hc0; clear hr0 hc0; have HB := Aside0.mk (Below.refl w.heap.size w); have H : (delta_zigs.l0 k ([] : List Int) l0 (l0.length : Int) 0) = some r := h; clear h; have H' := Aside0.mk H; clear H; go_enter Tryz.func74, Tryz.ntmps74; go_wp2
 go_loopg [3, 8] k (fun kq v3 v8 w' => ∃ (x3_1 : List Int) (x8_1 : Int), v8 = .int .i64 x8_1 ∧ Aside0 (delta_zigs.l0 kq x3_1 l0 (l0.length : Int) x8_1 = some r) ∧ Aside0 (kq ≤ k) ∧ Aside0 (Kd.R (Kd.int .u64) 75 w' w.heap.size (fun _ => True) v3 x3_1) ∧ Aside0 (Below w.heap.size w w'))
 case atStart => exact ⟨(([] : List Int)), (0), EB, H', ⟨Nat.le_refl _⟩, ⟨by first | exact Kd.R_nil _ _ _ _ _ | exact Kd.N_nil _ _ _ _ _ | exact Kd.V_nil _ _ _ _ _ | exact Kd.Q_nil _ _ _ _ _ | exact Kd.S_nil _ _ _ _ _⟩, ⟨BU HB.out⟩⟩
 case round =>
  clear H'; obtain ⟨x3_1, x8_1, rfl, HA, HK1, HO_3, HB⟩ := hrel
  cases gk with
  | zero => exact absurd HA.out (by simp [delta_zigs.l0])
  | succ k1 =>
   have H := HA.out; clear HA; simp only [delta_zigs.l0] at H
   by_cases c2 : x8_1 < (l0.length : Int)
   ·rw [if_pos c2] at H; have c2b0 := decide_eq_true c2; clear c2
    by_cases c3 : 0 ≤ x8_1
    ·rw [if_pos c3] at H; have c3b0 := decide_eq_true c3; clear c3
     by_cases c4 : x8_1 < (l0.length : Int)
     ·rw [if_pos c4] at H; have c4b0 := decide_eq_true c4; clear c4; replace H := Option.bind_eq_some_iff.mp H; obtain ⟨t180, A50, H⟩ := H; (try dsimp only at H); have A5 := Aside0.mk A50; clear A50
      by_cases c6 : x3_1.length < 17592186044416
      ·rw [if_pos c6] at H; have LMc6 := Aside0.mk c6; clear c6
       obtain ⟨y181, hy181⟩ : ∃ y_ : List Int, y_ = (x3_1 ++ [t180]) := ⟨_, rfl⟩
       replace H : (delta_zigs.l0 k1 y181 l0 (l0.length : Int) (wrap64 (x8_1 + 1))) = some r := HY hy181 H; have Ny181 := Aside0.mk hy181; clear hy181; have H' := Aside0.mk H; clear H; have p179 : 0 ≤ (x8_1 : Int) := OD; have q179 : x8_1 < (l0.length : Int) := OD; obtain ⟨ad179, e179, hx179_0⟩ := Kd.at_int HR0.out x8_1 p179 q179
       cases e179
       replace hx179_0 := (HB.out.cell (World.block_lt_of_cell? w _ hx179_0)).trans hx179_0; replace p179 := eq_true p179; replace q179 := eq_true q179
       go_wp2_with (first | (go_at_call 70; (with_reducible refine (num_Zig.calls (rd l0 x8_1) t180 _ A5.out).mono ?_); rintro e w' ⟨rfl, ⟨nd, rfl⟩⟩) | ((with_reducible refine gate_builtin (b := .append) (xs := #[.tmp 12, .tmp 15]) rfl ?_); at_builtin; refine Kd.R_append (Kd.int .u64) (w0 := w) w.heap.size rfl (.tmp 12) (.tmp 15) 83 75 (.int .u64 0) 8 rfl Tryz.underlying83 info75 rfl (by decide) (by omega) u3 x3_1 t180 [.int .u64 t180] (fun _ => True) (fun _ => False) rfl rfl ?aP (fun _ hk => hk.elim) ?aF ?aO ?aB ?aS ?aL ?_; (case aP => exact rfl); (case aB => exact (BU HB.out)); (case aF => exact (fun _ _ => trivial)); (case aO => exact (RU HO_3.out)); (case aS => exact (below_size (BU HB.out))); (case aL => have := LMc6.out; omega); intro v182 w7 ho hb hg hat; rw [← Ny181.out] at ho; replace HB := Aside0.mk hb; have HO183 := Aside0.mk ho; clear HO_3; clear ho hb hg hat))
       go_roundg k1
       case measure => have := HK1.out; omega
       case rel => exact ⟨(y181), (wrap64 (x8_1 + 1)), EB, H', ⟨by have := HK1.out; omega⟩, ⟨RU HO183.out⟩, ⟨BU HB.out⟩⟩
      ·rw [if_neg c6] at H; exact absurd H (by simp)
     ·rw [if_neg c4] at H; exact absurd H (by simp)
    ·rw [if_neg c3] at H; exact absurd H (by simp)
   ·rw [if_neg c2] at H; have c2b0 := decide_eq_false c2; clear c2; obtain rfl := Option.some.inj H; go_wp2
    go_ret
    exact ⟨_, ER, RU HO_3.out, BU HB.out⟩

/-! ### delta_Steps: function 75 -/
def delta_Steps.l0 : Nat → List Int → Int → List Int → Int → Int → Option (List Int)
 | 0, _, _, _, _, _ => none
 | k + 1, x3, x4, x7, x8, x9 => if x9 < x8 then (if 0 ≤ x9 then (if x9 < (x7.length : Int) then (if x3.length < 17592186044416 then (delta_Steps.l0 k (x3 ++ [wrap64 ((rd x7 x9) - x4)]) (rd x7 x9) x7 x8 (wrap64 (x9 + 1))) else (none)) else (none)) else (none)) else (some x3)
def delta_Steps.f (k : Nat) (l0 : List Int) : Option (List Int) := delta_Steps.l0 k ([] : List Int) 0 l0 (l0.length : Int) 0
set_option maxHeartbeats 8000000 in
set_option maxRecDepth 100000 in
theorem delta_Steps.calls (k : Nat) (A0 : Option Addr) (c0 : Nat) (l0 : List Int) (r : List Int) (w : World) (hr0 : Kd.C (Kd.int .i64) w A0 l0.length l0) (hc0 : l0.length ≤ c0) (h : delta_Steps.f k l0 = some r) :
  Calls Tryz.prog 75 #[.slice A0 l0.length c0] w fun e w' => ∃ v0_ : Value, e = .returned (v0_) ∧ Kd.R (Kd.int .i64) 2 w' w.heap.size (fun _ => True) v0_ r ∧ Below w.heap.size w w' := by
 have HR0 := Aside0.mk hr0; have HC0 := Aside0.mk hc0; clear hr0 hc0; have HB := Aside0.mk (Below.refl w.heap.size w); have H : (delta_Steps.l0 k ([] : List Int) 0 l0 (l0.length : Int) 0) = some r := h; clear h; have H' := Aside0.mk H; clear H; go_enter Tryz.func75, Tryz.ntmps75; go_wp2
 go_loopg [3, 4, 9] k (fun kq v3 v4 v9 w' => ∃ (x3_1 : List Int) (x4_1 : Int) (x9_1 : Int), v4 = .int .i64 x4_1 ∧ v9 = .int .i64 x9_1 ∧ Aside0 (delta_Steps.l0 kq x3_1 x4_1 l0 (l0.length : Int) x9_1 = some r) ∧ Aside0 (kq ≤ k) ∧ Aside0 (Kd.R (Kd.int .i64) 2 w' w.heap.size (fun _ => True) v3 x3_1) ∧ Aside0 (Below w.heap.size w w'))
 case atStart => exact ⟨(([] : List Int)), (0), (0), EB, EB, H', ⟨Nat.le_refl _⟩, ⟨by first | exact Kd.R_nil _ _ _ _ _ | exact Kd.N_nil _ _ _ _ _ | exact Kd.V_nil _ _ _ _ _ | exact Kd.Q_nil _ _ _ _ _ | exact Kd.S_nil _ _ _ _ _⟩, ⟨BU HB.out⟩⟩
 case round =>
  clear H'; obtain ⟨x3_1, x4_1, x9_1, rfl, rfl, HA, HK1, HO_3, HB⟩ := hrel
  cases gk with
  | zero => exact absurd HA.out (by simp [delta_Steps.l0])
  | succ k1 =>
   have H := HA.out; clear HA; simp only [delta_Steps.l0] at H
   by_cases c2 : x9_1 < (l0.length : Int)
   ·rw [if_pos c2] at H; have c2b0 := decide_eq_true c2; clear c2
    by_cases c3 : 0 ≤ x9_1
    ·rw [if_pos c3] at H; have c3b0 := decide_eq_true c3; clear c3
     by_cases c4 : x9_1 < (l0.length : Int)
     ·rw [if_pos c4] at H; have c4b0 := decide_eq_true c4; clear c4
      by_cases c5 : x3_1.length < 17592186044416
      ·rw [if_pos c5] at H; have LMc5 := Aside0.mk c5; clear c5
       obtain ⟨y185, hy185⟩ : ∃ y_ : List Int, y_ = (x3_1 ++ [wrap64 ((rd l0 x9_1) - x4_1)]) := ⟨_, rfl⟩
       replace H : (delta_Steps.l0 k1 y185 (rd l0 x9_1) l0 (l0.length : Int) (wrap64 (x9_1 + 1))) = some r := HY hy185 H; have Ny185 := Aside0.mk hy185; clear hy185; have H' := Aside0.mk H; clear H; have p184 : 0 ≤ (x9_1 : Int) := OD; have q184 : x9_1 < (l0.length : Int) := OD; obtain ⟨ad184, e184, hx184_0⟩ := Kd.at_int HR0.out x9_1 p184 q184
       cases e184
       replace hx184_0 := (HB.out.cell (World.block_lt_of_cell? w _ hx184_0)).trans hx184_0; replace p184 := eq_true p184; replace q184 := eq_true q184
       go_wp2_with (first | ((with_reducible refine gate_builtin (b := .append) (xs := #[.tmp 13, .tmp 17]) rfl ?_); at_builtin; refine Kd.R_append (Kd.int .i64) (w0 := w) w.heap.size rfl (.tmp 13) (.tmp 17) 51 2 (.int .i64 0) 8 rfl Tryz.underlying51 info2 rfl (by decide) (by omega) u3 x3_1 (wrap64 ((rd l0 x9_1) - x4_1)) [.int .i64 (wrap64 ((rd l0 x9_1) - x4_1))] (fun _ => True) (fun _ => False) rfl rfl ?aP (fun _ hk => hk.elim) ?aF ?aO ?aB ?aS ?aL ?_; (case aP => exact rfl); (case aB => exact (BU HB.out)); (case aF => exact (fun _ _ => trivial)); (case aO => exact (RU HO_3.out)); (case aS => exact (below_size (BU HB.out))); (case aL => have := LMc5.out; omega); intro v186 w6 ho hb hg hat; rw [← Ny185.out] at ho; replace HB := Aside0.mk hb; have HO187 := Aside0.mk ho; clear HO_3; clear ho hb hg hat))
       go_roundg k1
       case measure => have := HK1.out; omega
       case rel => exact ⟨(y185), (rd l0 x9_1), (wrap64 (x9_1 + 1)), EB, EB, H', ⟨by have := HK1.out; omega⟩, ⟨RU HO187.out⟩, ⟨BU HB.out⟩⟩
      ·rw [if_neg c5] at H; exact absurd H (by simp)
     ·rw [if_neg c4] at H; exact absurd H (by simp)
    ·rw [if_neg c3] at H; exact absurd H (by simp)
   ·rw [if_neg c2] at H; have c2b0 := decide_eq_false c2; clear c2; obtain rfl := Option.some.inj H; go_wp2
    go_ret
    exact ⟨_, ER, RU HO_3.out, BU HB.out⟩

/-! ### bits_Len64: function 98 -/
def bits_Len64.f (a0 : Int) : Option (Int) := if 0 ≤ a0 then (if a0 ≤ 18446744073709551615 then some (Lib.bitLen a0.toNat : Int) else none) else none
theorem bits_Len64.calls (a0 : Int) (r : Int) (w : World) (h : bits_Len64.f a0 = some r) :
  Calls Tryz.prog 98 #[.int .u64 a0] w fun e w' => e = .returned (.int .i64 r) ∧ Drawn0 w w' := by
 unfold bits_Len64.f at h
 by_cases h0 : 0 ≤ a0
 ·rw [if_pos h0] at h
  by_cases h1 : a0 ≤ 18446744073709551615
  ·rw [if_pos h1] at h; obtain rfl := Option.some.inj h
   exact (Go.Proofs.Tryz.bits_Len64 a0 w h0 h1).mono fun e w' ⟨he, hw⟩ => ⟨he, by rw [hw]; exact Drawn0.refl _⟩
  ·rw [if_neg h1] at h; cases h
 ·rw [if_neg h0] at h; cases h

/-! ### bits_Width: function 76 -/
def bits_Width.l0 : Nat → Int → List Int → Int → Int → Option (Int)
 | 0, _, _, _, _ => none
 | k + 1, x3, x6, x7, x8 => if x8 < x7 then (if 0 ≤ x8 then (if x8 < (x6.length : Int) then (bits_Width.l0 k (Go.bits .or .u64 x3 (rd x6 x8)) x6 x7 (wrap64 (x8 + 1))) else (none)) else (none)) else ((bits_Len64.f x3).bind fun t189 => (some t189))
def bits_Width.f (k : Nat) (l0 : List Int) : Option (Int) := bits_Width.l0 k 0 l0 (l0.length : Int) 0
set_option maxHeartbeats 8000000 in
set_option maxRecDepth 100000 in
theorem bits_Width.calls (k : Nat) (A0 : Option Addr) (c0 : Nat) (l0 : List Int) (r : Int) (w : World) (hr0 : Kd.C (Kd.int .u64) w A0 l0.length l0) (hc0 : l0.length ≤ c0) (h : bits_Width.f k l0 = some r) :
  Calls Tryz.prog 76 #[.slice A0 l0.length c0] w fun e w' => e = .returned (.int .i64 r) ∧ Drawn0 w w' := by
 have HR0 := Aside0.mk hr0; have HC0 := Aside0.mk hc0; clear hr0 hc0; have H : (bits_Width.l0 k 0 l0 (l0.length : Int) 0) = some r := h; clear h; have H' := Aside0.mk H; clear H; go_enter Tryz.func76, Tryz.ntmps76; go_wp2
 go_loopg [3, 8] k (fun kq v3 v8 w' => ∃ (x3_1 : Int) (x8_1 : Int), v3 = .int .u64 x3_1 ∧ v8 = .int .i64 x8_1 ∧ Aside0 (bits_Width.l0 kq x3_1 l0 (l0.length : Int) x8_1 = some r) ∧ Aside0 (kq ≤ k) ∧ Drawn0 w w')
 case atStart => exact ⟨(0), (0), EB, EB, H', ⟨Nat.le_refl _⟩, DR⟩
 case round =>
  clear H'; obtain ⟨x3_1, x8_1, rfl, rfl, HA, HK1, ⟨m1, rfl⟩⟩ := hrel
  cases gk with
  | zero => exact absurd HA.out (by simp [bits_Width.l0])
  | succ k1 =>
   have H := HA.out; clear HA; simp only [bits_Width.l0] at H
   by_cases c2 : x8_1 < (l0.length : Int)
   ·rw [if_pos c2] at H; have c2b0 := decide_eq_true c2; clear c2
    by_cases c3 : 0 ≤ x8_1
    ·rw [if_pos c3] at H; have c3b0 := decide_eq_true c3; clear c3
     by_cases c4 : x8_1 < (l0.length : Int)
     ·rw [if_pos c4] at H; have c4b0 := decide_eq_true c4; clear c4; have H' := Aside0.mk H; clear H; have p188 : 0 ≤ (x8_1 : Int) := OD; have q188 : x8_1 < (l0.length : Int) := OD; obtain ⟨ad188, e188, hx188_0⟩ := Kd.at_int HR0.out x8_1 p188 q188
      cases e188
      replace p188 := eq_true p188; replace q188 := eq_true q188; go_wp2; go_roundg k1
      case measure => have := HK1.out; omega
      case rel => exact ⟨(Go.bits .or .u64 x3_1 (rd l0 x8_1)), (wrap64 (x8_1 + 1)), EB, EB, H', ⟨by have := HK1.out; omega⟩, DR⟩
     ·rw [if_neg c4] at H; exact absurd H (by simp)
    ·rw [if_neg c3] at H; exact absurd H (by simp)
   ·rw [if_neg c2] at H; have c2b0 := decide_eq_false c2; clear c2; replace H := Option.bind_eq_some_iff.mp H; obtain ⟨t189, A50, H⟩ := H; replace H : (some t189) = some r := H; have A5 := Aside0.mk A50; clear A50; obtain rfl := Option.some.inj H
    go_wp2_with (first | (go_at_call 98; (with_reducible refine (bits_Len64.calls x3_1 t189 _ A5.out).mono ?_); rintro e w' ⟨rfl, ⟨nd, rfl⟩⟩))
    go_ret
    exact ⟨EB, DR⟩

/-! ### delta_Put: function 47 -/
def delta_Put.f (k : Nat) (l0 : List Int) : Option (List Int × Int) := if (l0.length : Int) > 65536 then (some (([] : List Int), 12)) else ((delta_Steps.f k l0).bind fun t190 => ((delta_zigs.f k t190).bind fun t193 => (if (t193.length : Int) = 1 then (if 0 < (t193.length : Int) then ((num_PutVar.f k ([] : List Int) (rd t193 0)).bind fun t197 => (some (t197, 0))) else (none)) else (if (t193.length : Int) = 0 then (some (([] : List Int), 0)) else (if 1 ≤ (t193.length : Int) then ((some (t193.drop 1 : List Int)).bind fun y200 => ((bits_Width.f k y200).bind fun t204 => ((bits_Pack.f k y200 t204).bind fun bt205 => ((some (([(t204) % 256] : List Int) : List Int)).bind fun y209 => (if y209.length + bt205.1.length < 140737488355328 then ((some (y209 ++ bt205.1 : List Int)).bind fun y212 => (if 0 < (t193.length : Int) then ((num_PutVar.f k ([] : List Int) (rd t193 0)).bind fun t216 => (if t216.length + y212.length < 140737488355328 then (some ((t216 ++ y212), bt205.2)) else (none))) else (none))) else (none)))))) else (none))))))
set_option maxHeartbeats 8000000 in
set_option maxRecDepth 100000 in
theorem delta_Put.calls (k : Nat) (A0 : Option Addr) (c0 : Nat) (l0 : List Int) (r1 : List Int) (r2 : Int) (w : World) (hr0 : Kd.C (Kd.int .i64) w A0 l0.length l0) (hc0 : l0.length ≤ c0) (h : delta_Put.f k l0 = some (r1, r2)) :
  Calls Tryz.prog 47 #[.slice A0 l0.length c0] w fun e w' => ∃ v0_ : Value, e = .returned (.tuple #[v0_, .int .i64 r2]) ∧ Kd.R (Kd.int .u8) 5 w' w.heap.size (fun _ => True) v0_ r1 ∧ Below w.heap.size w w' := by
 have HR0 := Aside0.mk hr0; have HC0 := Aside0.mk hc0; clear hr0 hc0; have HB := Aside0.mk (Below.refl w.heap.size w); have H : (if (l0.length : Int) > 65536 then (some (([] : List Int), 12)) else ((delta_Steps.f k l0).bind fun t190 => ((delta_zigs.f k t190).bind fun t193 => (if (t193.length : Int) = 1 then (if 0 < (t193.length : Int) then ((num_PutVar.f k ([] : List Int) (rd t193 0)).bind fun t197 => (some (t197, 0))) else (none)) else (if (t193.length : Int) = 0 then (some (([] : List Int), 0)) else (if 1 ≤ (t193.length : Int) then ((some (t193.drop 1 : List Int)).bind fun y200 => ((bits_Width.f k y200).bind fun t204 => ((bits_Pack.f k y200 t204).bind fun bt205 => ((some (([(t204) % 256] : List Int) : List Int)).bind fun y209 => (if y209.length + bt205.1.length < 140737488355328 then ((some (y209 ++ bt205.1 : List Int)).bind fun y212 => (if 0 < (t193.length : Int) then ((num_PutVar.f k ([] : List Int) (rd t193 0)).bind fun t216 => (if t216.length + y212.length < 140737488355328 then (some ((t216 ++ y212), bt205.2)) else (none))) else (none))) else (none)))))) else (none))))))) = some (r1, r2) := h; clear h
 by_cases c2 : (l0.length : Int) > 65536
 ·rw [if_pos c2] at H; have c2b0 : decide (65536 < (l0.length : Int)) = true := decide_eq_true c2; have c2b1 : decide (65536 < l0.length) = true := decide_eq_true (by omega); clear c2; simp only [Option.some.injEq, Prod.mk.injEq] at H; obtain ⟨rfl, rfl⟩ := H; go_enter Tryz.func47, Tryz.ntmps47; go_wp2
  go_ret2
  exact ⟨_, ER, by first | exact Kd.R_nil _ _ _ _ _ | exact Kd.N_nil _ _ _ _ _ | exact Kd.V_nil _ _ _ _ _ | exact Kd.Q_nil _ _ _ _ _ | exact Kd.S_nil _ _ _ _ _, BU HB.out⟩
 ·rw [if_neg c2] at H; have c2b0 : decide (65536 < (l0.length : Int)) = false := decide_eq_false c2; have c2b1 : decide (65536 < l0.length) = false := decide_eq_false (by omega); clear c2; replace H := Option.bind_eq_some_iff.mp H; obtain ⟨t190, A30, H⟩ := H; (try dsimp only at H); have A3 := Aside0.mk A30; clear A30; replace H := Option.bind_eq_some_iff.mp H; obtain ⟨t193, A40, H⟩ := H; (try dsimp only at H); have A4 := Aside0.mk A40; clear A40
  by_cases c5 : (t193.length : Int) = 1
  ·rw [if_pos c5] at H; have c5b0 : ((t193.length : Int) == 1) = true := beq_iff_eq.mpr c5; have c5b1 : ((t193.length : Int) != 1) = false := bne_eq_false_iff_eq.mpr c5; clear c5
   by_cases c6 : 0 < (t193.length : Int)
   ·rw [if_pos c6] at H; have c6b0 := decide_eq_true c6; have c6b1 : decide (0 < t193.length) = true := decide_eq_true (by omega); clear c6; replace H := Option.bind_eq_some_iff.mp H; obtain ⟨t197, A70, H⟩ := H; replace H : (some (t197, 0)) = some (r1, r2) := H; have A7 := Aside0.mk A70; clear A70; simp only [Option.some.injEq, Prod.mk.injEq] at H; obtain ⟨rfl, rfl⟩ := H; go_enter Tryz.func47, Tryz.ntmps47
    go_wp2_with (first | (go_at_call 75; (with_reducible refine (delta_Steps.calls k _ _ l0 t190 _ ?side1 ?side2 A3.out).mono ?_); (case side1 => exact CU HR0.out); (case side2 => exact HC0.out); rintro e w8 ⟨v191, rfl, ho0, hb⟩; have HO192 := Aside0.mk (Kd.R_lower ho0 (below_size (BU HB.out))); replace HB := Aside0.mk (below_step (BU HB.out) hb); clear hb ho0; obtain ⟨Ao9, co9, eo9⟩ := Kd.R_slice HO192.out; subst eo9) | (go_at_call 74; (with_reducible refine (delta_zigs.calls k _ _ t190 t193 _ ?side1 ?side2 A4.out).mono ?_); (case side1 => exact CU ((Kd.R_reads' HO192.out).2.2)); (case side2 => exact (Kd.R_reads' HO192.out).2.1); rintro e w10 ⟨v194, rfl, ho0, hb⟩; replace HO192 := Aside0.mk (Kd.R_below (RU HO192.out) hb); have HO195 := Aside0.mk (Kd.R_lower ho0 (below_size (BU HB.out))); replace HB := Aside0.mk (below_step (BU HB.out) hb); clear hb ho0; obtain ⟨Ao11, co11, eo11⟩ := Kd.R_slice HO195.out; subst eo11; have p196 : 0 ≤ (0 : Int) := (by omega); have q196 : 0 < (t193.length : Int) := OD; obtain ⟨ad196, e196, hx196_0⟩ := Kd.at_int (Kd.R_reads' HO195.out).2.2 0 p196 q196; cases e196; have qi196 : (0 < t193.length) = True := eq_true (by omega); (try rw [show ((0 : Int)).toNat = 0 from rfl] at hx196_0); (try rw [Addr.add_zero'] at hx196_0); replace p196 := eq_true p196; replace q196 := eq_true q196) | (go_at_call 59; (refine (num_PutVar.calls k (fun k_ => some k_ = (.slice none 0 0 : Value).ownBlock) (.slice none 0 0) ([] : List Int) (rd t193 0) t197 w _ ?side1 ?side2 A7.out).mono ?_); (case side1 => exact BU HB.out); (case side2 => exact Kd.R_nil _ _ _ _ _); rintro e w12 ⟨v198, rfl, ho0, hb, hkp⟩; replace HO192 := Aside0.mk (Kd.R_mono (ok' := fun k_ => True) (Kd.R_keptB (HO192.out) hkp (fun k_ hk_ hs_ => (fun e_ => by simp [Value.ownBlock] at e_) hs_)) (fun k_ hk_ => trivial)); replace HO195 := Aside0.mk (Kd.R_mono (ok' := fun k_ => True) (Kd.R_keptB (HO195.out) hkp (fun k_ hk_ hs_ => (fun e_ => by simp [Value.ownBlock] at e_) hs_)) (fun k_ hk_ => trivial)); have HO199 := Aside0.mk (Kd.R_mono (ok' := fun k_ => True) ho0 (fun k_ hk_ => trivial)); replace HB := Aside0.mk hb; (try clear hb); (try clear hkp); (try clear ho0)) | ((with_reducible refine gate_builtin (b := .append) (xs := #[.tmp 39, .tmp 40]) rfl ?_); at_builtin; refine R_append_nil (Kd.int .u8) w.heap.size rfl (.tmp 39) (.tmp 40) 25 5 (.int .u8 0) 1 rfl Tryz.underlying25 info5 v198 t197 _ rfl rfl (RU HO199.out) ?_))
    go_ret2
    exact ⟨_, ER, RU HO199.out, BU HB.out⟩
   ·rw [if_neg c6] at H; exact absurd H (by simp)
  ·rw [if_neg c5] at H; have c5b0 : ((t193.length : Int) == 1) = false := beq_eq_false_iff_ne.mpr c5; have c5b1 : ((t193.length : Int) != 1) = true := bne_iff_ne.mpr c5
   by_cases c13 : (t193.length : Int) = 0
   ·rw [if_pos c13] at H; have c13b0 : ((t193.length : Int) == 0) = true := beq_iff_eq.mpr c13; have c13b1 : ((t193.length : Int) != 0) = false := bne_eq_false_iff_eq.mpr c13; clear c13; simp only [Option.some.injEq, Prod.mk.injEq] at H; obtain ⟨rfl, rfl⟩ := H; go_enter Tryz.func47, Tryz.ntmps47
    go_wp2_with (first | (go_at_call 75; (with_reducible refine (delta_Steps.calls k _ _ l0 t190 _ ?side1 ?side2 A3.out).mono ?_); (case side1 => exact CU HR0.out); (case side2 => exact HC0.out); rintro e w14 ⟨v191, rfl, ho0, hb⟩; have HO192 := Aside0.mk (Kd.R_lower ho0 (below_size (BU HB.out))); replace HB := Aside0.mk (below_step (BU HB.out) hb); clear hb ho0; obtain ⟨Ao15, co15, eo15⟩ := Kd.R_slice HO192.out; subst eo15) | (go_at_call 74; (with_reducible refine (delta_zigs.calls k _ _ t190 t193 _ ?side1 ?side2 A4.out).mono ?_); (case side1 => exact CU ((Kd.R_reads' HO192.out).2.2)); (case side2 => exact (Kd.R_reads' HO192.out).2.1); rintro e w16 ⟨v194, rfl, ho0, hb⟩; replace HO192 := Aside0.mk (Kd.R_below (RU HO192.out) hb); have HO195 := Aside0.mk (Kd.R_lower ho0 (below_size (BU HB.out))); replace HB := Aside0.mk (below_step (BU HB.out) hb); clear hb ho0; obtain ⟨Ao17, co17, eo17⟩ := Kd.R_slice HO195.out; subst eo17))
    go_ret2
    exact ⟨_, ER, by first | exact Kd.R_nil _ _ _ _ _ | exact Kd.N_nil _ _ _ _ _ | exact Kd.V_nil _ _ _ _ _ | exact Kd.Q_nil _ _ _ _ _ | exact Kd.S_nil _ _ _ _ _, BU HB.out⟩
   ·rw [if_neg c13] at H; have c13b0 : ((t193.length : Int) == 0) = false := beq_eq_false_iff_ne.mpr c13; have c13b1 : ((t193.length : Int) != 0) = true := bne_iff_ne.mpr c13
    have c13b2 : ¬ (t193 = []) := fun h_ => c13 (by rw [h_]; rfl)
    by_cases c18 : 1 ≤ (t193.length : Int)
    ·rw [if_pos c18] at H; have c18b0 := eq_true c18; have c18b1 := decide_eq_true c18; clear c18
     obtain ⟨y200, hy200⟩ : ∃ y_ : List Int, y_ = (t193.drop 1) := ⟨_, rfl⟩
     replace H : ((bits_Width.f k y200).bind fun t204 => ((bits_Pack.f k y200 t204).bind fun bt205 => ((some (([(t204) % 256] : List Int) : List Int)).bind fun y209 => (if y209.length + bt205.1.length < 140737488355328 then ((some (y209 ++ bt205.1 : List Int)).bind fun y212 => (if 0 < (t193.length : Int) then ((num_PutVar.f k ([] : List Int) (rd t193 0)).bind fun t216 => (if t216.length + y212.length < 140737488355328 then (some ((t216 ++ y212), bt205.2)) else (none))) else (none))) else (none))))) = some (r1, r2) := HY hy200 H; have Ny200 := Aside0.mk hy200; clear hy200; replace H := Option.bind_eq_some_iff.mp H; obtain ⟨t204, A190, H⟩ := H; (try dsimp only at H); have A19 := Aside0.mk A190; clear A190; replace H := Option.bind_eq_some_iff.mp H; obtain ⟨⟨t205, t206⟩, A200, H⟩ := H; (try dsimp only at H); have A20 := Aside0.mk A200; clear A200
     obtain ⟨y209, hy209⟩ : ∃ y_ : List Int, y_ = (([(t204) % 256] : List Int)) := ⟨_, rfl⟩
     replace H : (if y209.length + t205.length < 140737488355328 then ((some (y209 ++ t205 : List Int)).bind fun y212 => (if 0 < (t193.length : Int) then ((num_PutVar.f k ([] : List Int) (rd t193 0)).bind fun t216 => (if t216.length + y212.length < 140737488355328 then (some ((t216 ++ y212), t206)) else (none))) else (none))) else (none)) = some (r1, r2) := HY hy209 H; have Ny209 := Aside0.mk hy209; clear hy209
     by_cases c21 : y209.length + t205.length < 140737488355328
     ·rw [if_pos c21] at H; have LMc21 := Aside0.mk c21; clear c21
      obtain ⟨y212, hy212⟩ : ∃ y_ : List Int, y_ = (y209 ++ t205) := ⟨_, rfl⟩
      replace H : (if 0 < (t193.length : Int) then ((num_PutVar.f k ([] : List Int) (rd t193 0)).bind fun t216 => (if t216.length + y212.length < 140737488355328 then (some ((t216 ++ y212), t206)) else (none))) else (none)) = some (r1, r2) := HY hy212 H; have Ny212 := Aside0.mk hy212; clear hy212
      by_cases c22 : 0 < (t193.length : Int)
      ·rw [if_pos c22] at H; have c22b0 := decide_eq_true c22; have c22b1 : decide (0 < t193.length) = true := decide_eq_true (by omega); clear c22; replace H := Option.bind_eq_some_iff.mp H; obtain ⟨t216, A230, H⟩ := H; (try dsimp only at H); have A23 := Aside0.mk A230; clear A230
       by_cases c24 : t216.length + y212.length < 140737488355328
       ·rw [if_pos c24] at H; have LMc24 := Aside0.mk c24; clear c24
        obtain ⟨y219, hy219⟩ : ∃ y_ : List Int, y_ = (t216 ++ y212) := ⟨_, rfl⟩
        replace H : (some (y219, t206)) = some (r1, r2) := HY hy219 H; have Ny219 := Aside0.mk hy219; clear hy219; simp only [Option.some.injEq, Prod.mk.injEq] at H; obtain ⟨rfl, rfl⟩ := H; go_enter Tryz.func47, Tryz.ntmps47
        go_wp2_with (first | (go_at_call 75; (with_reducible refine (delta_Steps.calls k _ _ l0 t190 _ ?side1 ?side2 A3.out).mono ?_); (case side1 => exact CU HR0.out); (case side2 => exact HC0.out); rintro e w25 ⟨v191, rfl, ho0, hb⟩; have HO192 := Aside0.mk (Kd.R_lower ho0 (below_size (BU HB.out))); replace HB := Aside0.mk (below_step (BU HB.out) hb); clear hb ho0; obtain ⟨Ao26, co26, eo26⟩ := Kd.R_slice HO192.out; subst eo26) | (go_at_call 74; (with_reducible refine (delta_zigs.calls k _ _ t190 t193 _ ?side1 ?side2 A4.out).mono ?_); (case side1 => exact CU ((Kd.R_reads' HO192.out).2.2)); (case side2 => exact (Kd.R_reads' HO192.out).2.1); rintro e w27 ⟨v194, rfl, ho0, hb⟩; replace HO192 := Aside0.mk (Kd.R_below (RU HO192.out) hb); have HO195 := Aside0.mk (Kd.R_lower ho0 (below_size (BU HB.out))); replace HB := Aside0.mk (below_step (BU HB.out) hb); clear hb ho0; obtain ⟨Ao28, co28, eo28⟩ := Kd.R_slice HO195.out; subst eo28; have q29 : (1 : Int) ≤ ((t193.length : Int) : Int) := OD; obtain ⟨i029, hi029, _, hsz29, _⟩ := info_parts info75; have hroom29 : t193.length ≤ co28 := (Kd.R_reads' HO195.out).2.1; have hC29 : Kd.C (Kd.int .u64) _ Ao28 t193.length t193 := (Kd.R_reads' HO195.out).2.2; have hcut29 := cut_from (P := Tryz.prog) 83 75 .i64 Tryz.underlying83 hi029 1 hsz29 Ao28 t193.length co28 1 (by omega) q29; have hr29 := Kd.C_drop (m := (1 : Int).toNat) (c := co28) hC29 (by omega) hroom29; obtain ⟨A29, hA29⟩ : ∃ A1, A1 = (if co28 = (1 : Int).toNat then Ao28 else (Ao28 : Option Addr).map (·.add ((1 : Int).toNat * 1))) := ⟨_, rfl⟩; obtain ⟨c29, hc29⟩ : ∃ c1, c1 = co28 - (1 : Int).toNat := ⟨_, rfl⟩; have hy29 : y200.length = t193.length - (1 : Int).toNat := (by rw [Ny200.out, List.length_drop] <;> omega); rw [show (t193).drop (1 : Int).toNat = y200 from Ny200.out.symm] at hr29; replace hr29 : Kd.C (Kd.int .u64) _ A29 y200.length y200 := (by rw [hA29]; exact hr29); rw [← hy29, ← hA29, ← hc29] at hcut29; have HR203 := Aside0.mk hr29; have HC203 := Aside0.mk (show y200.length ≤ c29 from by rw [hy29, hc29]; exact Nat.sub_le_sub_right hroom29 _); clear hr29 hC29 hroom29 hi029 hsz29 hc29; have KY29 := Aside0.mk hy29; have KA29 := Aside0.mk hA29; clear hy29 hA29; have KL29 := Aside0.mk (show 1 ≤ t193.length from by omega); replace q29 := eq_true q29) | (go_at_call 76; (with_reducible refine (bits_Width.calls k _ _ y200 t204 _ ?side1 ?side2 A19.out).mono ?_); (case side1 => repeat (first | exact (by repeat (first | (with_reducible exact HR203.out) | (with_reducible refine Kd.C_alloc ?_ _) | (with_reducible refine Kd.C_drewN ?_ _) | (with_reducible refine Kd.C_drew ?_) | exact HR203.out)) | (with_reducible refine Kd.C_alloc ?_ _) | (with_reducible refine Kd.C_drewN ?_ _) | (with_reducible refine Kd.C_drew ?_))); (case side2 => exact HC203.out); rintro e w' ⟨rfl, ⟨nd, rfl⟩⟩) | (go_at_call 62; (with_reducible refine (bits_Pack.calls k _ _ y200 t204 t205 t206 _ ?side1 ?side2 A20.out).mono ?_); (case side1 => repeat (first | exact (by repeat (first | (with_reducible exact HR203.out) | (with_reducible refine Kd.C_alloc ?_ _) | (with_reducible refine Kd.C_drewN ?_ _) | (with_reducible refine Kd.C_drew ?_) | exact HR203.out)) | (with_reducible refine Kd.C_alloc ?_ _) | (with_reducible refine Kd.C_drewN ?_ _) | (with_reducible refine Kd.C_drew ?_))); (case side2 => exact HC203.out); rintro e w30 ⟨v207, rfl, ho0, hb⟩; replace HO192 := Aside0.mk (Kd.R_below (RU HO192.out) hb); replace HO195 := Aside0.mk (Kd.R_below (RU HO195.out) hb); have HO208 := Aside0.mk (Kd.R_lower ho0 (below_size (BU HB.out))); replace HR203 := Aside0.mk (Kd.C_below (by repeat (first | (with_reducible exact HR203.out) | (with_reducible refine Kd.C_alloc ?_ _) | (with_reducible refine Kd.C_drewN ?_ _) | (with_reducible refine Kd.C_drew ?_) | exact HR203.out)) hb); replace HB := Aside0.mk (below_step (BU HB.out) hb); clear hb ho0) | ((with_reducible refine gate_dst (N := 33) rfl ?_); refine Kd.R_lit (Kd.int .u8) _ 5 ?hg (N := 33) ?hd (xs := ([(t204) % 256] : List Int)) (inner := [.int .u8 ((t204) % 256)]) (ok := fun _ => True) (okp := fun _ => True) ?hr ?hp (fun _ hk => hk) trivial (Below.refl _ _) (Nat.le_refl _) (by simp) ?_; (case hd => rfl); (case hg => rfl); (case hr => first | (go_simp; done) | (go_simp; rfl)); (case hp => exact (Reps.one (show Kd.M (Kd.int .u8) _ _ _ ((t204) % 256) [.int .u8 ((t204) % 256)] from rfl) (Reps.none _ _))); intro v210 w31 ho32 hb hg_ hnew_; clear hg_ hnew_; (first | rw [← Ny209.out] at ho32 | (simp only [Int.reduceToNat] at ho32; rw [← Ny209.out] at ho32)); replace HO192 := Aside0.mk (Kd.R_below (RU HO192.out) hb); replace HO195 := Aside0.mk (Kd.R_below (RU HO195.out) hb); have HO211 := Aside0.mk (Kd.R_lower (Kd.R_new' ho32 (Kd.R_lt (RU HO208.out))) (below_size (BU HB.out))); replace HO208 := Aside0.mk (Kd.R_elder' (RU HO208.out) (Kd.R_base ho32) hb); replace HR203 := Aside0.mk (Kd.C_below (by repeat (first | (with_reducible exact HR203.out) | (with_reducible refine Kd.C_alloc ?_ _) | (with_reducible refine Kd.C_drewN ?_ _) | (with_reducible refine Kd.C_drew ?_) | exact HR203.out)) hb); replace HB := Aside0.mk (below_step (BU HB.out) hb); clear hb ho32; obtain ⟨Ao34, co34, eo34⟩ := Kd.R_slice HO208.out; subst eo34) | ((with_reducible refine gate_builtin (b := .append) (xs := #[.tmp 33, .tmp 34]) rfl ?_); at_builtin; refine Kd.R_append_rows (Kd.int .u8) (w0 := w) w.heap.size rfl (.tmp 33) (.tmp 34) 25 5 (.int .u8 0) 1 rfl Tryz.underlying25 info5 rfl (by decide) (by omega) v210 y209 t205 _ _ _ (fun k_ => some k_ ≠ (.slice Ao34 t205.length co34 : Value).ownBlock) (fun _ => False) rfl rfl ?aO ?aR (fun _ _ h => h) (fun _ h => h.elim) ?aF ?aB ?aS ?aL ?_; (case aR => exact CU ((Kd.R_reads' HO208.out).2.2)); (case aB => exact (BU HB.out)); (case aF => exact (fun k_ hk => Kd.fresh' (Kd.R_lt (RU HO208.out)) k_ hk)); (case aO => exact (RU (Kd.R_mono HO211.out (fun _ hk => hk.2)))); (case aS => exact (below_size (BU HB.out))); (case aL => have := LMc21.out; omega); intro v213 w33 ho hb hg hat; rw [← Ny212.out] at ho; replace HO192 := Aside0.mk (Kd.R_over' (RU HO192.out) (Kd.R_typed (RU HO211.out)) (by decide) hg); replace HO208 := Aside0.mk (Kd.R_after (ok := (fun _ => True)) (RU HO208.out) hg hat); replace HB := Aside0.mk hb; replace HR203 := Aside0.mk ((show Kd.C (Kd.int .u64) w33 A29 y200.length y200 from by rw [Ny200.out, KA29.out]; exact Kd.C_drop (m := 1) (c := co28) ((Kd.R_reads' (Kd.R_over' (RU HO195.out) (Kd.R_typed (RU HO211.out)) (by decide) hg)).2.2) KL29.out ((Kd.R_reads' (Kd.R_over' (RU HO195.out) (Kd.R_typed (RU HO211.out)) (by decide) hg)).2.1))); replace HO195 := Aside0.mk (Kd.R_over' (RU HO195.out) (Kd.R_typed (RU HO211.out)) (by decide) hg); have HO214 := Aside0.mk ho; clear HO211; clear ho hb hg hat; have p215 : 0 ≤ (0 : Int) := (by omega); have q215 : 0 < (t193.length : Int) := OD; obtain ⟨ad215, e215, hx215_0⟩ := Kd.at_int (Kd.R_reads' HO195.out).2.2 0 p215 q215; cases e215; have qi215 : (0 < t193.length) = True := eq_true (by omega); (try rw [show ((0 : Int)).toNat = 0 from rfl] at hx215_0); (try rw [Addr.add_zero'] at hx215_0); replace p215 := eq_true p215; replace q215 := eq_true q215) | (go_at_call 59; (refine (num_PutVar.calls k (fun k_ => some k_ = (.slice none 0 0 : Value).ownBlock) (.slice none 0 0) ([] : List Int) (rd t193 0) t216 w _ ?side1 ?side2 A23.out).mono ?_); (case side1 => exact BU HB.out); (case side2 => exact Kd.R_nil _ _ _ _ _); rintro e w35 ⟨v217, rfl, ho0, hb, hkp⟩; replace HO192 := Aside0.mk (Kd.R_mono (ok' := fun k_ => True) (Kd.R_keptB (HO192.out) hkp (fun k_ hk_ hs_ => (fun e_ => by simp [Value.ownBlock] at e_) hs_)) (fun k_ hk_ => trivial)); replace HO195 := Aside0.mk (Kd.R_mono (ok' := fun k_ => True) (Kd.R_keptB (HO195.out) hkp (fun k_ hk_ hs_ => (fun e_ => by simp [Value.ownBlock] at e_) hs_)) (fun k_ hk_ => trivial)); have HO218 := Aside0.mk (Kd.R_mono (ok' := fun k_ => some k_ ≠ (.slice Ao34 t205.length co34 : Value).ownBlock ∧ some k_ ≠ (v213 : Value).ownBlock) ho0 (fun k_ hk_ => ⟨Or.elim hk_ (fun hs_ => absurd hs_ (by simp [Value.ownBlock])) (fun hn_ => (Kd.fresh' (Kd.R_lt (RU HO208.out)) k_ hn_)), Or.elim hk_ (fun hs_ => absurd hs_ (by simp [Value.ownBlock])) (fun hn_ => (Kd.fresh' (Kd.R_lt (RU HO214.out)) k_ hn_))⟩)); replace HO208 := Aside0.mk (Kd.R_mono (ok' := fun k_ => some k_ ≠ (v213 : Value).ownBlock ∧ some k_ ≠ (v217 : Value).ownBlock) (Kd.R_keptB (HO208.out) hkp (fun k_ hk_ hs_ => (fun e_ => by simp [Value.ownBlock] at e_) hs_)) (fun k_ hk_ => ⟨hk_.1.2, fun e_ => Or.elim (ho0.1 k_ e_.symm) (fun hs_ => hk_.2.1 hs_) (fun hn_ => Nat.not_le.2 hk_.2.2 hn_)⟩)); replace HO214 := Aside0.mk (Kd.R_mono (ok' := fun k_ => some k_ ≠ (.slice Ao34 t205.length co34 : Value).ownBlock ∧ some k_ ≠ (v217 : Value).ownBlock) (Kd.R_keptB (HO214.out) hkp (fun k_ hk_ hs_ => (fun e_ => by simp [Value.ownBlock] at e_) hs_)) (fun k_ hk_ => ⟨hk_.1, fun e_ => Or.elim (ho0.1 k_ e_.symm) (fun hs_ => hk_.2.1 hs_) (fun hn_ => Nat.not_le.2 hk_.2.2 hn_)⟩)); replace HB := Aside0.mk hb; (try clear hb); (try clear hkp); (try clear ho0); obtain ⟨Ao37, co37, eo37⟩ := Kd.R_slice HO214.out; subst eo37) | ((with_reducible refine gate_builtin (b := .append) (xs := #[.tmp 39, .tmp 40]) rfl ?_); at_builtin; refine Kd.R_append_rows (Kd.int .u8) (w0 := w) w.heap.size rfl (.tmp 39) (.tmp 40) 25 5 (.int .u8 0) 1 rfl Tryz.underlying25 info5 rfl (by decide) (by omega) v217 t216 y212 _ _ _ (fun k_ => some k_ ≠ (.slice Ao34 t205.length co34 : Value).ownBlock ∧ some k_ ≠ (.slice Ao37 y212.length co37 : Value).ownBlock) (fun _ => False) rfl rfl ?aO ?aR (fun _ _ h => h) (fun _ h => h.elim) ?aF ?aB ?aS ?aL ?_; (case aR => exact CU ((Kd.R_reads' HO214.out).2.2)); (case aB => exact (BU HB.out)); (case aF => exact (fun k_ hk => ⟨Kd.fresh' (Kd.R_lt (RU HO208.out)) k_ hk, Kd.fresh' (Kd.R_lt (RU HO214.out)) k_ hk⟩)); (case aO => exact (RU HO218.out)); (case aS => exact (below_size (BU HB.out))); (case aL => have := LMc24.out; omega); intro v220 w36 ho hb hg hat; rw [← Ny219.out] at ho; replace HO192 := Aside0.mk (Kd.R_over' (RU HO192.out) (Kd.R_typed (RU HO218.out)) (by decide) hg); replace HO195 := Aside0.mk (Kd.R_over' (RU HO195.out) (Kd.R_typed (RU HO218.out)) (by decide) hg); replace HO208 := Aside0.mk (Kd.R_after (ok := (fun k_ => some k_ ≠ (.slice Ao37 y212.length co37 : Value).ownBlock)) (RU HO208.out) hg hat); replace HO214 := Aside0.mk (Kd.R_after (ok := (fun k_ => some k_ ≠ (.slice Ao34 t205.length co34 : Value).ownBlock)) (RU HO214.out) hg hat); replace HB := Aside0.mk hb; have HO221 := Aside0.mk ho; clear HO218; clear ho hb hg hat))
        go_ret2
        exact ⟨_, ER, RU (Kd.R_mono HO221.out (fun _ hk => trivial)), BU HB.out⟩
       ·rw [if_neg c24] at H; exact absurd H (by simp)
      ·rw [if_neg c22] at H; exact absurd H (by simp)
     ·rw [if_neg c21] at H; exact absurd H (by simp)
    ·rw [if_neg c18] at H; exact absurd H (by simp)

end Go.Proofs.YtehbkhddbdgbcaaGreatDoor.PChunkBack
