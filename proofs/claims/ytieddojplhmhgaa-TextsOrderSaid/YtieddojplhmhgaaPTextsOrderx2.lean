/- WRITTEN BY A PROGRAM of this session (wip/tool: a turned copy of the printer), out of the translation: Lean functions with the answers of the Go functions, and the proofs that the Go code comes to them. -/
import Derived.Test.YtieddojplhmhgaaPTextsOrderx0
namespace Go.Proofs.Ytieddojplhmhgaa.PTextsOrder
open Go.RowKit Go.Proofs.YtieddojplhmhgaaW.PrintWords Go.Proofs.YtieddojplhmhgaaW.PrintLast Go.Proofs.YtieddojplhmhgaaW.PrintMore
attribute [local go_sem] max2_int min2_int max_two min_two max_three min_three max_four min_four   -- for this text's walks alone
set_option linter.unusedVariables false
set_option linter.unusedSimpArgs false

/-! ### num_PutVar: function 37 -/
def num_PutVar.l0 : Nat → List Int → Int → Option (List Int)
  | 0, _, _ => none
  | k + 1, x0, x1 => if x1 ≥ 128 then (if x0.length < 140737488355328 then (num_PutVar.l0 k (x0 ++ [Go.bits .or .u8 ((x1) % 256) 128]) (x1 / 128)) else (none)) else (if x0.length < 140737488355328 then (some (x0 ++ [(x1) % 256])) else (none))
def num_PutVar.f (k : Nat) (l0 : List Int) (a1 : Int) : Option (List Int) := num_PutVar.l0 k l0 a1
theorem num_PutVar.mono_l : ∀ k, (∀ y0 y1, LeO (num_PutVar.l0 k y0 y1) (num_PutVar.l0 (k + 1) y0 y1))
  | 0 => fun _ _ r h => by simp [num_PutVar.l0] at h
  | k + 1 => by
    have ih0 := num_PutVar.mono_l k
    · intro y0 y1
      unfold num_PutVar.l0
      repeat' first
      | (with_reducible exact ih0 _ _)
      | (with_reducible exact LeO.refl _)
      | (with_reducible exact LeO.none _)
      | (with_reducible refine LeO.ite ?_ ?_)
      | (with_reducible refine LeO.bind ?_ (fun _ => ?_))
      | exact ih0 _ _
      | exact LeO.none _
      | refine LeO.ite ?_ ?_
      | refine LeO.bind ?_ (fun _ => ?_)
theorem num_PutVar.mono : ∀ a0 a1 k, LeO (num_PutVar.f k a0 a1) (num_PutVar.f (k + 1) a0 a1) := by
  intro a0 a1 k
  have ih0 := num_PutVar.mono_l k
  unfold num_PutVar.f
  repeat' first
      | (with_reducible exact ih0 _ _)
      | (with_reducible exact LeO.refl _)
      | (with_reducible exact LeO.none _)
      | (with_reducible refine LeO.ite ?_ ?_)
      | (with_reducible refine LeO.bind ?_ (fun _ => ?_))
      | exact ih0 _ _
      | exact LeO.none _
      | refine LeO.ite ?_ ?_
      | refine LeO.bind ?_ (fun _ => ?_)
set_option maxHeartbeats 8000000 in
set_option maxRecDepth 100000 in
theorem num_PutVar.calls (k : Nat) (P0_ : Nat → Prop) (u9000_ : Value) (l0 : List Int) (a1 : Int) (r : List Int) (w0 w : World) (hB : Below w0.heap.size w0 w) (ho0 : Kd.R (Kd.int .u8) 5 w w0.heap.size P0_ u9000_ l0) (h : num_PutVar.f k l0 a1 = some r) :
    Calls Try.prog 37 #[u9000_, .int .u64 a1] w fun e w' => ∃ v0_ : Value, e = .returned (v0_) ∧ Kd.R (Kd.int .u8) 5 w' w0.heap.size (fun k_ => (P0_ k_ ∨ w.heap.size ≤ k_)) v0_ r ∧ Below w0.heap.size w0 w' ∧ Kept w w' (fun k_ => P0_ k_) := by
  have HO0 := Aside0.mk (show Kd.R (Kd.int .u8) 5 w w0.heap.size (fun k_ => (P0_ k_ ∨ w.heap.size ≤ k_)) u9000_ l0 from Kd.R_mono ho0 (fun k_ hk => (.inl hk)))
  have HK := Aside0.mk (Kept.refl w (fun k_ => P0_ k_))
  have HW0 := Aside0.mk hB.size
  have HB := Aside0.mk hB
  clear hB
  have H : (num_PutVar.l0 k l0 a1) = some r := h
  clear h
  have H' := Aside0.mk H
  clear H
  go_enter Try.func37, Try.ntmps37
  go_wp2
  go_loopg [0, 1] k (fun kq v0 v1 w' => ∃ (x0_1 : List Int) (x1_1 : Int), v1 = .int .u64 x1_1 ∧ Aside0 (num_PutVar.l0 kq x0_1 x1_1 = some r) ∧ Aside0 (kq ≤ k) ∧ Aside0 (Kd.R (Kd.int .u8) 5 w' w0.heap.size (fun k_ => (P0_ k_ ∨ w.heap.size ≤ k_)) v0 x0_1) ∧ Aside0 (Kept w w' (fun k_ => P0_ k_)) ∧ Aside0 (Below w0.heap.size w0 w'))
  case atStart => exact ⟨(l0), (a1), (by first | rfl | (simp; done) | (simp [*]; done)), H', ⟨Nat.le_refl _⟩, ⟨by (with_reducible repeat (first | apply Kd.R_alloc | apply Kd.R_drewN | apply Kd.R_drew)); exact HO0.out⟩, ⟨by repeat (first | (with_reducible first | exact HK.out | apply Kept.alloc | apply Kept.drewN | apply Kept.drew) | exact HK.out)⟩, ⟨by repeat (first | (with_reducible first | exact HB.out | apply below_alloc | apply pw_below_drewN | apply below_drew1) | exact HB.out)⟩⟩
  case round =>
    clear H'
    try clear p2
    obtain ⟨x0_1, x1_1, rfl, HA, HK1, HO_0, HK, HB⟩ := hrel
    cases gk with
    | zero => exact absurd HA.out (by simp [num_PutVar.l0])
    | succ k1 =>
      have H := HA.out
      clear HA
      simp only [num_PutVar.l0] at H
      by_cases c3 : x1_1 ≥ 128
      · rw [if_pos c3] at H
        have c3b0 : decide (128 ≤ x1_1) = true := decide_eq_true c3
        clear c3
        by_cases c4 : x0_1.length < 140737488355328
        · rw [if_pos c4] at H
          have LMc4 := Aside0.mk c4
          clear c4
          obtain ⟨y112, hy112⟩ : ∃ y_ : List Int, y_ = (x0_1 ++ [Go.bits .or .u8 ((x1_1) % 256) 128]) := ⟨_, rfl⟩
          replace H : (num_PutVar.l0 k1 y112 (x1_1 / 128)) = some r := by first | (rw [hy112]; with_reducible exact H) | (have H2_ := (Option.bind_some _ _).symm.trans H; rw [hy112]; with_reducible exact H2_) | (have H2_ := (Option.bind_some _ _).symm.trans H; with_reducible exact H2_) | with_reducible exact H | (rw [hy112]; exact H) | exact H
          have Ny112 := Aside0.mk hy112
          clear hy112
          have H' := Aside0.mk H
          clear H
          go_wp2_with (first | ((with_reducible refine gate_builtin (b := .append) (xs := #[.tmp 9, .tmp 13]) rfl ?_); at_builtin; refine Kd.R_append (Kd.int .u8) (w0 := w0) w0.heap.size rfl (.tmp 9) (.tmp 13) 25 5 (.int .u8 0) 1 rfl Try.underlying25 info5 rfl (by decide) (by omega) u0 x0_1 (Go.bits .or .u8 ((x1_1) % 256) 128) [.int .u8 (Go.bits .or .u8 ((x1_1) % 256) 128)] (fun k_ => (P0_ k_ ∨ w.heap.size ≤ k_)) (fun _ => False) rfl rfl ?aP (fun _ hk => hk.elim) ?aF ?aO ?aB ?aS ?aL ?_; (case aP => exact rfl); (case aB => exact (by repeat (first | (with_reducible first | exact HB.out | apply below_alloc | apply pw_below_drewN | apply below_drew1) | exact HB.out))); (case aF => exact (fun k_ hk => (.inr (Nat.le_trans (by first | exact HK.out.1 | exact (show Kept w _ (fun k_ => P0_ k_) from by repeat (first | (with_reducible first | exact HK.out | apply Kept.alloc | apply Kept.drewN | apply Kept.drew) | exact HK.out)).1) hk)))); (case aO => exact (by (with_reducible repeat (first | apply Kd.R_alloc | apply Kd.R_drewN | apply Kd.R_drew)); exact HO_0.out)); (case aS => exact (below_size (by repeat (first | (with_reducible first | exact HB.out | apply below_alloc | apply pw_below_drewN | apply below_drew1) | exact HB.out)))); (case aL => have := LMc4.out; omega); intro v113 w5 ho hb hg hat; rw [← Ny112.out] at ho; have n0_ := Aside0.mk (hb); have n1_ := Aside0.mk (Kept.of_grown (S := (fun k_ => P0_ k_)) hg (by repeat (first | (with_reducible first | exact HK.out | apply Kept.alloc | apply Kept.drewN | apply Kept.drew) | exact HK.out)) (fun k_ e_ => (HO_0.out.1 k_ e_))); have n2_ := Aside0.mk (ho); clear HB; clear HK; clear HO_0; have HB := n0_; have HK := n1_; have HO114 := n2_; clear n0_ n1_ n2_; clear ho hb hg hat))
          go_roundg k1
          case measure => have := HK1.out; omega
          case rel => exact ⟨(y112), (x1_1 / 128), (by first | rfl | (simp; done) | (simp [*]; done)), H', ⟨by have := HK1.out; omega⟩, ⟨by (with_reducible repeat (first | apply Kd.R_alloc | apply Kd.R_drewN | apply Kd.R_drew)); exact HO114.out⟩, ⟨by repeat (first | (with_reducible first | exact HK.out | apply Kept.alloc | apply Kept.drewN | apply Kept.drew) | exact HK.out)⟩, ⟨by repeat (first | (with_reducible first | exact HB.out | apply below_alloc | apply pw_below_drewN | apply below_drew1) | exact HB.out)⟩⟩
        · rw [if_neg c4] at H
          exact absurd H (by simp)
      · rw [if_neg c3] at H
        have c3b0 : decide (128 ≤ x1_1) = false := decide_eq_false c3
        clear c3
        by_cases c6 : x0_1.length < 140737488355328
        · rw [if_pos c6] at H
          have LMc6 := Aside0.mk c6
          clear c6
          obtain ⟨y115, hy115⟩ : ∃ y_ : List Int, y_ = (x0_1 ++ [(x1_1) % 256]) := ⟨_, rfl⟩
          replace H : (some y115) = some r := by first | (rw [hy115]; with_reducible exact H) | (have H2_ := (Option.bind_some _ _).symm.trans H; rw [hy115]; with_reducible exact H2_) | (have H2_ := (Option.bind_some _ _).symm.trans H; with_reducible exact H2_) | with_reducible exact H | (rw [hy115]; exact H) | exact H
          have Ny115 := Aside0.mk hy115
          clear hy115
          obtain rfl := Option.some.inj H
          go_wp2_with (first | ((with_reducible refine gate_builtin (b := .append) (xs := #[.tmp 15, .tmp 18]) rfl ?_); at_builtin; refine Kd.R_append (Kd.int .u8) (w0 := w0) w0.heap.size rfl (.tmp 15) (.tmp 18) 25 5 (.int .u8 0) 1 rfl Try.underlying25 info5 rfl (by decide) (by omega) u0 x0_1 ((x1_1) % 256) [.int .u8 ((x1_1) % 256)] (fun k_ => (P0_ k_ ∨ w.heap.size ≤ k_)) (fun _ => False) rfl rfl ?aP (fun _ hk => hk.elim) ?aF ?aO ?aB ?aS ?aL ?_; (case aP => exact rfl); (case aB => exact (by repeat (first | (with_reducible first | exact HB.out | apply below_alloc | apply pw_below_drewN | apply below_drew1) | exact HB.out))); (case aF => exact (fun k_ hk => (.inr (Nat.le_trans (by first | exact HK.out.1 | exact (show Kept w _ (fun k_ => P0_ k_) from by repeat (first | (with_reducible first | exact HK.out | apply Kept.alloc | apply Kept.drewN | apply Kept.drew) | exact HK.out)).1) hk)))); (case aO => exact (by (with_reducible repeat (first | apply Kd.R_alloc | apply Kd.R_drewN | apply Kd.R_drew)); exact HO_0.out)); (case aS => exact (below_size (by repeat (first | (with_reducible first | exact HB.out | apply below_alloc | apply pw_below_drewN | apply below_drew1) | exact HB.out)))); (case aL => have := LMc6.out; omega); intro v116 w7 ho hb hg hat; rw [← Ny115.out] at ho; have n0_ := Aside0.mk (hb); have n1_ := Aside0.mk (Kept.of_grown (S := (fun k_ => P0_ k_)) hg (by repeat (first | (with_reducible first | exact HK.out | apply Kept.alloc | apply Kept.drewN | apply Kept.drew) | exact HK.out)) (fun k_ e_ => (HO_0.out.1 k_ e_))); have n2_ := Aside0.mk (ho); clear HB; clear HK; clear HO_0; have HB := n0_; have HK := n1_; have HO117 := n2_; clear n0_ n1_ n2_; clear ho hb hg hat))
          go_ret
          exact ⟨_, by first | rfl | (simp [errW_none, errW_some] <;> rfl) | (simp [*, errW_none, errW_some] <;> rfl), by (with_reducible repeat (first | apply Kd.R_alloc | apply Kd.R_drewN | apply Kd.R_drew)); exact HO117.out, by repeat (first | (with_reducible first | exact HB.out | apply below_alloc | apply pw_below_drewN | apply below_drew1) | exact HB.out), by repeat (first | (with_reducible first | exact HK.out | apply Kept.alloc | apply Kept.drewN | apply Kept.drew) | exact HK.out)⟩
        · rw [if_neg c6] at H
          exact absurd H (by simp)

/-! ### slices_IndexFunc_string_string: function 62 -/
def slices_IndexFunc_string_string.p (s : ByteArray) : Bool := decide (65536 < s.size)
def slices_IndexFunc_string_string.f (l0 : List ByteArray) : Option Int := some (Go.Lib.idxBy (fun _ y => slices_IndexFunc_string_string.p y) l0 default)
set_option maxHeartbeats 1000000 in
theorem slices_IndexFunc_string_string.pred (x : ByteArray) (W : World) : Calls Try.prog 47 #[.string x] W fun e w' => e = .returned (.bool (slices_IndexFunc_string_string.p x)) ∧ ∃ q, w' = W.drewN q := by
  unfold slices_IndexFunc_string_string.p
  go_enter Try.func47, Try.ntmps47
  go_wp2
  all_goals (go_ret; exact ⟨by first | rfl | (simp; done) | (simp; omega), 0, rfl⟩)
set_option maxHeartbeats 4000000 in
theorem slices_IndexFunc_string_string.calls (A0 : Option Addr) (c0 : Nat) (l0 : List ByteArray) (r : Int) (w : World) (hr0 : Kd.string.C w A0 l0.length l0) (hc0 : l0.length ≤ c0) (h : slices_IndexFunc_string_string.f l0 = some r) :
    Calls Try.prog 62 #[.slice A0 l0.length c0, .func (.func 47) #[] #[]] w fun e w' => e = .returned (.int .i64 r) ∧ Drawn0 w w' := by
  have hr := Option.some.inj h
  clear h
  have hlen := hr0.2.1
  have HR0 := Aside0.mk hr0
  have HRR := Aside0.mk hr
  clear hr0 hc0 hr
  go_enter Try.func62, Try.ntmps62
  go_wp2
  go_loopg [5, 8] l0.length (fun gg _ s8 wr => ∃ (x : Int) (q : Nat), Aside0 (0 ≤ x ∧ x ≤ (l0.length : Int) ∧ l0.length - x.toNat ≤ gg) ∧ s8 = .int .i64 x ∧ wr = w.drewN q ∧ Aside (∀ j, j < x.toNat → slices_IndexFunc_string_string.p l0[j]! = false))
  case atStart => exact ⟨0, 0, ⟨by omega, by omega, by omega⟩, rfl, rfl, fun j hj => absurd hj (Nat.not_lt_zero _)⟩
  case round =>
    obtain ⟨x, q, HX, rfl, rfl, A⟩ := hrel
    by_cases hlt : x < (l0.length : Int)
    · have p1 : 0 ≤ x := HX.out.1
      obtain ⟨ad1, e1, hx1⟩ := Kd.at_string HR0.out x p1 hlt
      cases e1
      have hget : l0[x.toNat]! = rdOf ByteArray.empty l0 x := by
        have hj : x.toNat < l0.length := by omega
        rw [List.getElem!_eq_getElem?_getD, List.getElem?_eq_getElem hj]
        unfold rdOf
        rw [List.getD_eq_getElem?_getD, List.getElem?_eq_getElem hj]; rfl
      generalize hy : rdOf ByteArray.empty l0 x = y at hx1 hget
      have HG := Aside0.mk hget
      clear hget hy
      have hb0 : decide (x < (l0.length : Int)) = true := decide_eq_true hlt
      have HLT := Aside0.mk hlt
      have q1 := eq_true hlt
      have p1' := eq_true p1
      clear hlt p1
      have hcall := slices_IndexFunc_string_string.pred y
      cases hq : slices_IndexFunc_string_string.p y with
      | true =>
        rw [hq] at hcall
        have HQ := Aside0.mk hq
        clear hq
        go_wp2_with (go_at_call 47; refine (hcall _).mono ?_; rintro e w' ⟨rfl, q', rfl⟩)
        go_ret
        refine ⟨?_, _, rfl⟩
        rw [← HRR.out]
        have hk := Go.Lib.idxBy_hit (fun _ y => slices_IndexFunc_string_string.p y) l0 l0.length x.toNat default (by have := HLT.out; have := HX.out; omega) (Nat.le_refl _) (by show slices_IndexFunc_string_string.p l0[x.toNat]! = true; rw [HG.out]; exact HQ.out) A.out
        rw [List.take_length] at hk
        rw [hk, Int.toNat_of_nonneg HX.out.1]
        rfl
      | false =>
        rw [hq] at hcall
        have HQ := Aside0.mk hq
        clear hq
        go_wp2_with (go_at_call 47; refine (hcall _).mono ?_; rintro e w' ⟨rfl, q', rfl⟩)
        go_roundg (l0.length - (x.toNat + 1))
        case measure => have := HX.out; have := HLT.out; omega
        case rel =>
          have h1 := HX.out
          have h2 := HLT.out
          have hw : wrap64 (x + 1) = x + 1 := by unfold wrap64; omega
          refine ⟨wrap64 (x + 1), _, ⟨by omega, by omega, by omega⟩, rfl, rfl, (show Aside _ from fun j hj => ?_)⟩
          rw [hw] at hj
          by_cases e : j = x.toNat
          · subst e
            rw [HG.out]; exact HQ.out
          · exact A.out j (by omega)
    · have hb0 : decide (x < (l0.length : Int)) = false := decide_eq_false hlt
      have HLT := Aside0.mk hlt
      clear hlt
      go_wp2
      go_ret
      refine ⟨?_, q, rfl⟩
      rw [← HRR.out]
      have hm := Go.Lib.idxBy_miss (fun _ y => slices_IndexFunc_string_string.p y) l0 l0.length default (fun j hj => A.out j (by have := HLT.out; have := HX.out; omega))
      rw [List.take_length] at hm
      rw [hm]
      rfl

/-! ### slices_ContainsFunc_string_string: function 46 -/
def slices_ContainsFunc_string_string.f (l0 : List ByteArray) : Option Bool := some (l0.any slices_IndexFunc_string_string.p)
set_option maxHeartbeats 1000000 in
theorem slices_ContainsFunc_string_string.calls (A0 : Option Addr) (c0 : Nat) (l0 : List ByteArray) (r : Bool) (w : World) (hr0 : Kd.string.C w A0 l0.length l0) (hc0 : l0.length ≤ c0) (h : slices_ContainsFunc_string_string.f l0 = some r) :
    Calls Try.prog 46 #[.slice A0 l0.length c0, .func (.func 47) #[] #[]] w fun e w' => e = .returned (.bool r) ∧ Drawn0 w w' := by
  have hr := Option.some.inj h
  have hcall := slices_IndexFunc_string_string.calls A0 c0 l0 _ w hr0 hc0 rfl
  rw [← Go.Lib.idxBy_nonneg_iff (fun _ y => slices_IndexFunc_string_string.p y) l0 default] at hr
  generalize Go.Lib.idxBy (fun _ y => slices_IndexFunc_string_string.p y) l0 default = i at *
  clear hr0 hc0 h
  subst hr
  go_enter Try.func46, Try.ntmps46
  go_wp2_with (go_at_call 62; refine hcall.mono ?_; rintro e w' ⟨rfl, q, rfl⟩)
  go_ret
  exact ⟨rfl, q, rfl⟩

/-! ### num_PutBlob: function 48 -/
def num_PutBlob.f (k : Nat) (l0 : List Int) (l1 : List Int) : Option (List Int) := (num_PutVar.f k l0 (IntKind.u64.wrap ((l1.length : Int)))).bind fun t118 => (if t118.length + l1.length < 140737488355328 then (some (t118 ++ l1)) else (none))
theorem num_PutBlob.mono : ∀ a0 a1 k, LeO (num_PutBlob.f k a0 a1) (num_PutBlob.f (k + 1) a0 a1) := by
  intro a0 a1 k
  unfold num_PutBlob.f
  repeat' first
      | (with_reducible exact num_PutVar.mono _ _ _)
      | (with_reducible exact LeO.refl _)
      | (with_reducible exact LeO.none _)
      | (with_reducible refine LeO.ite ?_ ?_)
      | (with_reducible refine LeO.bind ?_ (fun _ => ?_))
      | exact num_PutVar.mono _ _ _
      | exact LeO.none _
      | refine LeO.ite ?_ ?_
      | refine LeO.bind ?_ (fun _ => ?_)
set_option maxHeartbeats 8000000 in
set_option maxRecDepth 100000 in
theorem num_PutBlob.calls (k : Nat) (P0_ : Nat → Prop) (u9000_ : Value) (l0 : List Int) (A1 : Option Addr) (c1 : Nat) (l1 : List Int) (r : List Int) (w0 w : World) (hB : Below w0.heap.size w0 w) (ho0 : Kd.R (Kd.int .u8) 5 w w0.heap.size P0_ u9000_ l0) (hr1 : ∀ W_, Kept w W_ (fun k_ => P0_ k_) → Kd.C (Kd.int .u8) W_ A1 l1.length l1) (hc1 : l1.length ≤ c1) (h : num_PutBlob.f k l0 l1 = some r) :
    Calls Try.prog 48 #[u9000_, .slice A1 l1.length c1] w fun e w' => ∃ v0_ : Value, e = .returned (v0_) ∧ Kd.R (Kd.int .u8) 5 w' w0.heap.size (fun k_ => (P0_ k_ ∨ w.heap.size ≤ k_)) v0_ r ∧ Below w0.heap.size w0 w' ∧ Kept w w' (fun k_ => P0_ k_) := by
  have HO0 := Aside0.mk (show Kd.R (Kd.int .u8) 5 w w0.heap.size (fun k_ => (P0_ k_ ∨ w.heap.size ≤ k_)) u9000_ l0 from Kd.R_mono ho0 (fun k_ hk => (.inl hk)))
  have HR1 := Aside0.mk hr1
  have HC1 := Aside0.mk hc1
  clear hr1 hc1
  have HK := Aside0.mk (Kept.refl w (fun k_ => P0_ k_))
  have HW0 := Aside0.mk hB.size
  have HB := Aside0.mk hB
  clear hB
  have H : ((num_PutVar.f k l0 (IntKind.u64.wrap ((l1.length : Int)))).bind fun t118 => (if t118.length + l1.length < 140737488355328 then (some (t118 ++ l1)) else (none))) = some r := h
  clear h
  replace H := Option.bind_eq_some_iff.mp H
  obtain ⟨t118, A30, H⟩ := H
  replace H : (if t118.length + l1.length < 140737488355328 then (some (t118 ++ l1)) else (none)) = some r := H
  have A3 := Aside0.mk A30
  clear A30
  by_cases c4 : t118.length + l1.length < 140737488355328
  · rw [if_pos c4] at H
    have LMc4 := Aside0.mk c4
    clear c4
    obtain ⟨y121, hy121⟩ : ∃ y_ : List Int, y_ = (t118 ++ l1) := ⟨_, rfl⟩
    replace H : (some y121) = some r := by first | (rw [hy121]; with_reducible exact H) | (have H2_ := (Option.bind_some _ _).symm.trans H; rw [hy121]; with_reducible exact H2_) | (have H2_ := (Option.bind_some _ _).symm.trans H; with_reducible exact H2_) | with_reducible exact H | (rw [hy121]; exact H) | exact H
    have Ny121 := Aside0.mk hy121
    clear hy121
    obtain rfl := Option.some.inj H
    obtain ⟨Ao5, co5, eo5⟩ := Kd.R_slice HO0.out
    subst eo5
    go_enter Try.func48, Try.ntmps48
    go_wp2_with (first | ((with_reducible refine gate_callee (f := 37) rfl ?_); refine goesL_ (some 9) rfl rfl Try.func37 (by kernel_rfl) rfl #[.slice Ao5 l0.length co5, .int .u64 (IntKind.u64.wrap ((l1.length : Int)))] rfl (by (try simp only [List.map_toArray, List.map_cons, List.map_nil]); first | done | rfl | (simp only [List.length_drop, List.length_take]; rfl)) ?_; (with_reducible refine (num_PutVar.calls k (fun k_ => some k_ = (.slice Ao5 l0.length co5 : Value).ownBlock) (.slice Ao5 l0.length co5) l0 (IntKind.u64.wrap ((l1.length : Int))) t118 w0 _ ?side1 ?side2 A3.out).mono ?_); (case side1 => repeat (first | (with_reducible first | exact HB.out | apply below_alloc | apply pw_below_drewN | apply below_drew1) | exact HB.out)); (case side2 => exact Kd.R_tight rfl HO0.out); rintro e w6 ⟨v119, rfl, ho0, hb, hkp⟩; refine ⟨_, rfl, ?_⟩; have n0_ := Aside0.mk (Kd.R_mono (ok' := fun k_ => (P0_ k_ ∨ w.heap.size ≤ k_)) ho0 (fun k_ hk_ => Or.elim hk_ (fun hs_ => (HO0.out.1 k_ (hs_).symm)) (fun hn_ => (.inr (Nat.le_trans (by first | exact HK.out.1 | exact (show Kept w _ (fun k_ => P0_ k_) from by repeat (first | (with_reducible first | exact HK.out | apply Kept.alloc | apply Kept.drewN | apply Kept.drew) | exact HK.out)).1) hn_))))); have n1_ := Aside0.mk (Kept.then_ (S := (fun k_ => P0_ k_)) (by repeat (first | (with_reducible first | exact HK.out | apply Kept.alloc | apply Kept.drewN | apply Kept.drew) | exact HK.out)) hkp (fun k_ hs_ => (fun e_ => (HO0.out.1 k_ e_.symm)) hs_)); have n2_ := Aside0.mk (hb); clear HK; clear HB; clear HO0; have HO120 := n0_; have HK := n1_; have HB := n2_; clear n0_ n1_ n2_; (try clear hb); (try clear hkp); (try clear ho0)) | ((with_reducible refine gate_builtin (b := .append) (xs := #[.tmp 9, .tmp 10]) rfl ?_); at_builtin; refine Kd.R_append_rows (Kd.int .u8) (w0 := w0) w0.heap.size rfl (.tmp 9) (.tmp 10) 25 5 (.int .u8 0) 1 rfl Try.underlying25 info5 rfl (by decide) (by omega) v119 t118 l1 _ _ _ (fun k_ => (P0_ k_ ∨ w.heap.size ≤ k_)) (fun _ => False) rfl rfl ?aO ?aR (fun _ _ h => h) (fun _ h => h.elim) ?aF ?aB ?aS ?aL ?_; (case aR => exact Kd.C_kept_now HR1.out (by repeat (first | (with_reducible first | exact HK.out | apply Kept.alloc | apply Kept.drewN | apply Kept.drew) | exact HK.out))); (case aB => exact (by repeat (first | (with_reducible first | exact HB.out | apply below_alloc | apply pw_below_drewN | apply below_drew1) | exact HB.out))); (case aF => exact (fun k_ hk => (.inr (Nat.le_trans (by first | exact HK.out.1 | exact (show Kept w _ (fun k_ => P0_ k_) from by repeat (first | (with_reducible first | exact HK.out | apply Kept.alloc | apply Kept.drewN | apply Kept.drew) | exact HK.out)).1) hk)))); (case aO => exact (by (with_reducible repeat (first | apply Kd.R_alloc | apply Kd.R_drewN | apply Kd.R_drew)); exact HO120.out)); (case aS => exact (below_size (by repeat (first | (with_reducible first | exact HB.out | apply below_alloc | apply pw_below_drewN | apply below_drew1) | exact HB.out)))); (case aL => have := LMc4.out; omega); intro v122 w7 ho hb hg hat; rw [← Ny121.out] at ho; have n0_ := Aside0.mk (hb); have n1_ := Aside0.mk (Kept.of_grown (S := (fun k_ => P0_ k_)) hg (by repeat (first | (with_reducible first | exact HK.out | apply Kept.alloc | apply Kept.drewN | apply Kept.drew) | exact HK.out)) (fun k_ e_ => (HO120.out.1 k_ e_))); have n2_ := Aside0.mk (ho); clear HB; clear HK; clear HO120; have HB := n0_; have HK := n1_; have HO123 := n2_; clear n0_ n1_ n2_; clear ho hb hg hat))
    go_ret
    exact ⟨_, by first | rfl | (simp [errW_none, errW_some] <;> rfl) | (simp [*, errW_none, errW_some] <;> rfl), by (with_reducible repeat (first | apply Kd.R_alloc | apply Kd.R_drewN | apply Kd.R_drew)); exact HO123.out, by repeat (first | (with_reducible first | exact HB.out | apply below_alloc | apply pw_below_drewN | apply below_drew1) | exact HB.out), by repeat (first | (with_reducible first | exact HK.out | apply Kept.alloc | apply Kept.drewN | apply Kept.drew) | exact HK.out)⟩
  · rw [if_neg c4] at H
    exact absurd H (by simp)

/-- The bytes of a string, as numbers. -/
def num_PutBlobS.bs (s : ByteArray) : List Int := s.data.toList.map fun b => (b.toNat : Int)
def num_PutBlobS.f (k : Nat) (l0 : List Int) (s : ByteArray) : Option (List Int) := num_PutBlob.f k l0 (num_PutBlobS.bs s)
theorem num_PutBlobS.mono : ∀ a0 a1 k, LeO (num_PutBlobS.f k a0 a1) (num_PutBlobS.f (k + 1) a0 a1) := fun _ _ _ => num_PutBlob.mono _ _ _
theorem num_PutBlobS.bs_length (s : ByteArray) : (num_PutBlobS.bs s).length = s.size := by unfold num_PutBlobS.bs; rw [List.length_map, Array.length_toList]; rfl
theorem num_PutBlobS.below (w : World) (e : TypeId) (s : ByteArray) : Below w.heap.size w (Go.Lib.bytesWorld w e s) :=
  ⟨rfl, rfl, rfl, by rw [Go.Lib.bytesWorld_size]; omega, fun j hj => Go.Lib.bytesWorld_at_old w e s j hj⟩
theorem num_PutBlobS.reads (w w1 : World) (e : TypeId) (s : ByteArray) (hs : s.size ≤ 9223372036854775807) (h : w1.heap[w.heap.size]? = (Go.Lib.bytesWorld w e s).heap[w.heap.size]?) : (Kd.int .u8).C w1 (some ⟨w.heap.size, 0, none⟩) (num_PutBlobS.bs s).length (num_PutBlobS.bs s) := by
  rw [num_PutBlobS.bs_length]
  refine ⟨num_PutBlobS.bs_length s, hs, fun hn => ⟨_, rfl, fun j p hj => ⟨[.int .u8 p], rfl, rfl, fun i u hu => ?_⟩⟩⟩
  have hj' : j < s.size := by have := (List.getElem?_eq_some_iff.1 hj).1; rw [num_PutBlobS.bs_length] at this; exact this
  have hc := Go.Lib.bytesWorld_cell w e s j hj'
  have hp : p = ((s.data.toList.getD j 0).toNat : Int) := by
    have hj2 : j < s.data.toList.length := by rw [Array.length_toList]; exact hj'
    simp only [num_PutBlobS.bs, List.getElem?_map, List.getElem?_eq_getElem hj2, Option.map_some, Option.some.injEq] at hj
    rw [List.getD_eq_getElem?_getD, List.getElem?_eq_getElem hj2]; exact hj.symm
  rcases i with _ | i
  · simp at hu
    subst hu
    have ha : (⟨w.heap.size, 0, none⟩ : Addr).add (j * 1 + 0) = ⟨w.heap.size, j, none⟩ := by unfold Addr.add; split <;> simp_all
    show w1.cell? ((⟨w.heap.size, 0, none⟩ : Addr).add (j * 1 + 0)) = _
    rw [ha, hp, ← hc]
    simp only [World.cell?, h]
  · simp at hu
theorem num_PutBlobS.wp {w0 W : World} {ops : Array Oper} {rest : List Oper} {o1 o2 : Oper} {a : Act} {Q : Exit → Act → World → Prop} {x b : Operand} {t : Tmp} (k : Nat) (P0_ : Nat → Prop) (u9000_ : Value) (l0 : List Int) (s : ByteArray) (r : List Int)
    (hg1 : o1.guard = none) (hop1 : o1.op = .convert 9 25 x) (hd1 : o1.dst = some t) (hg2 : o2.guard = none) (hop2 : o2.op = .call { callee := .value (.func 48), args := #[b, .tmp t], argTypes := #[25, 25] })
    (hx : a.eval x = .string s) (hb : ∀ v, (a.put (some t) v).eval b = u9000_ ∧ (a.put (some t) v).eval (.tmp t) = v) (hP : P0_ = fun k_ => some k_ = u9000_.ownBlock) (hB : Below w0.heap.size w0 W) (ho0 : Kd.R (Kd.int .u8) 5 W w0.heap.size P0_ u9000_ l0) (h : num_PutBlobS.f k l0 s = some r)
    (hK : ∀ (v1 : Value) (e : Ending) (w' : World), (∃ v0_ : Value, e = .returned v0_ ∧ Kd.R (Kd.int .u8) 5 w' w0.heap.size (fun k_ => (P0_ k_ ∨ W.heap.size ≤ k_)) v0_ r ∧ Below w0.heap.size w0 w' ∧ Kept W w' (fun k_ => P0_ k_)) → ∃ v : Value, e = .returned v ∧ wpList Try.prog ops Q rest ((a.put o1.dst v1).put o2.dst v) w') :
    wpList Try.prog ops Q (o1 :: o2 :: rest) a W := by
  have hs : s.size ≤ 9223372036854775807 := by
    by_cases hc : s.size ≤ 9223372036854775807
    · exact hc
    · exfalso
      unfold num_PutBlobS.f num_PutBlob.f at h
      obtain ⟨t1, _, h⟩ := Option.bind_eq_some_iff.mp h
      by_cases c : t1.length + (num_PutBlobS.bs s).length < 140737488355328
      · rw [num_PutBlobS.bs_length] at c; omega
      · rw [if_neg c] at h; cases h
  have hrun := Go.Lib.run_convert_string_bytes (P := Try.prog) W 9 25 5 s (u := .string) (by kernel_rfl) (by kernel_rfl) (by kernel_rfl)
  have hbel := num_PutBlobS.below W 5 s
  refine wpList_plain hg1 fun K' hK' => ?_
  unfold Oper.wp
  simp [execOp, hop1, hx, hrun, Result.andThen]
  refine hK' _ _ ?_
  have hlt : ∀ k_, P0_ k_ → k_ < W.heap.size := fun k_ hk => by
    rw [hP] at hk
    exact ((Kd.R_bound ho0).1 k_ hk.symm).2.2.1
  have hcap := grownCap_ge W s.size 0 5
  obtain ⟨hb1, hb2⟩ := hb (.slice (some ⟨W.heap.size, 0, none⟩) s.size (grownCap W s.size 0 5))
  have hcall := num_PutBlob.calls k P0_ u9000_ l0 (some ⟨W.heap.size, 0, none⟩) (grownCap W s.size 0 5) (num_PutBlobS.bs s) r w0 (Go.Lib.bytesWorld W 5 s) (below_weaken hB hB.size hbel) (Kd.R_below ho0 hbel)
    (fun W_ hk => num_PutBlobS.reads W W_ 5 s hs (hk.2 _ (by rw [Go.Lib.bytesWorld_size]; omega) (fun hp => by have := hlt _ hp; omega))) (by rw [num_PutBlobS.bs_length]; exact hcap) h
  rw [num_PutBlobS.bs_length] at hcall
  refine goesL_ o2.dst rfl hg2 Try.func48 (by kernel_rfl) rfl #[u9000_, .slice (some ⟨W.heap.size, 0, none⟩) s.size (grownCap W s.size 0 5)] hop2 (by simp only [hd1, List.map_toArray, List.map_cons, List.map_nil, hb1, hb2]) (hcall.mono ?_)
  rintro e w' ⟨v0, he, hR, hBw, hkp⟩
  exact hK _ e w' ⟨v0, he, Kd.R_mono hR (fun k_ hk => hk.imp_right fun hk => Nat.le_trans (by rw [Go.Lib.bytesWorld_size]; omega) hk), hBw, (Kept.of_below hbel _).then_ hkp (fun _ hk => .inl hk)⟩

/-! ### cmp_isNaN_string: function 76 -/
def cmp_isNaN_string.f (a0 : ByteArray) : Option (Bool) := some (a0.toList != a0.toList)
set_option maxHeartbeats 8000000 in
set_option maxRecDepth 100000 in
theorem cmp_isNaN_string.calls (a0 : ByteArray) (r : Bool) (w : World) (h : cmp_isNaN_string.f a0 = some r) :
    Calls Try.prog 76 #[.string a0] w fun e w' => e = .returned (.bool r) ∧ Drawn0 w w' := by
  have H : (some (a0.toList != a0.toList)) = some r := h
  clear h
  obtain rfl := Option.some.inj H
  go_enter Try.func76, Try.ntmps76
  go_wp2
  go_ret
  exact ⟨by first | rfl | (simp; done) | (simp [*]; done), by repeat (first | exact Drawn0.refl _ | apply Drawn0.step)⟩

/-! ### cmp_Less_string: function 63 -/
def cmp_Less_string.f (a0 : ByteArray) (a1 : ByteArray) : Option (Bool) := (cmp_isNaN_string.f a0).bind fun t124 => (if t124 = true then ((cmp_isNaN_string.f a1).bind fun t125 => (if t125 = true then (some (Op.bytesLess a0.toList a1.toList)) else (some true))) else (some (Op.bytesLess a0.toList a1.toList)))
set_option maxHeartbeats 8000000 in
set_option maxRecDepth 100000 in
theorem cmp_Less_string.calls (a0 : ByteArray) (a1 : ByteArray) (r : Bool) (w : World) (h : cmp_Less_string.f a0 a1 = some r) :
    Calls Try.prog 63 #[.string a0, .string a1] w fun e w' => e = .returned (.bool r) ∧ Drawn0 w w' := by
  have H : ((cmp_isNaN_string.f a0).bind fun t124 => (if t124 = true then ((cmp_isNaN_string.f a1).bind fun t125 => (if t125 = true then (some (Op.bytesLess a0.toList a1.toList)) else (some true))) else (some (Op.bytesLess a0.toList a1.toList)))) = some r := h
  clear h
  replace H := Option.bind_eq_some_iff.mp H
  obtain ⟨t124, A30, H⟩ := H
  replace H : (if t124 = true then ((cmp_isNaN_string.f a1).bind fun t125 => (if t125 = true then (some (Op.bytesLess a0.toList a1.toList)) else (some true))) else (some (Op.bytesLess a0.toList a1.toList))) = some r := H
  have A3 := Aside0.mk A30
  clear A30
  by_cases c4 : t124 = true
  · subst c4
    have H1 : ((cmp_isNaN_string.f a1).bind fun t125 => (if t125 = true then (some (Op.bytesLess a0.toList a1.toList)) else (some true))) = some r := by rw [if_pos rfl] at H; exact H
    clear H
    have H := H1
    clear H1
    replace H := Option.bind_eq_some_iff.mp H
    obtain ⟨t125, A50, H⟩ := H
    replace H : (if t125 = true then (some (Op.bytesLess a0.toList a1.toList)) else (some true)) = some r := H
    have A5 := Aside0.mk A50
    clear A50
    by_cases c6 : t125 = true
    · subst c6
      have H1 : (some (Op.bytesLess a0.toList a1.toList)) = some r := by rw [if_pos rfl] at H; exact H
      clear H
      have H := H1
      clear H1
      obtain rfl := Option.some.inj H
      go_enter Try.func63, Try.ntmps63
      go_wp2_with (first | ((with_reducible refine gate_callee (f := 76) rfl ?_); refine goesL_ (some 6) rfl rfl Try.func76 (by kernel_rfl) rfl #[.string a0] rfl (by (try simp only [List.map_toArray, List.map_cons, List.map_nil]); first | done | rfl | (simp only [List.length_drop, List.length_take]; rfl)) ?_; (with_reducible refine (cmp_isNaN_string.calls a0 true _ A3.out).mono ?_); rintro e w' ⟨rfl, ⟨nd, rfl⟩⟩; refine ⟨_, rfl, ?_⟩) | (go_at_call 76; (with_reducible refine (cmp_isNaN_string.calls a1 true _ A5.out).mono ?_); rintro e w' ⟨rfl, ⟨nd, rfl⟩⟩))
      go_ret
      exact ⟨by first | rfl | (simp; done) | (simp [*]; done), by repeat (first | exact Drawn0.refl _ | apply Drawn0.step)⟩
    · replace c6 := Bool.eq_false_iff.mpr c6
      subst c6
      have H1 : (some true) = some r := by rw [if_neg (show ¬ (false = true) by decide)] at H; exact H
      clear H
      have H := H1
      clear H1
      obtain rfl := Option.some.inj H
      go_enter Try.func63, Try.ntmps63
      go_wp2_with (first | ((with_reducible refine gate_callee (f := 76) rfl ?_); refine goesL_ (some 6) rfl rfl Try.func76 (by kernel_rfl) rfl #[.string a0] rfl (by (try simp only [List.map_toArray, List.map_cons, List.map_nil]); first | done | rfl | (simp only [List.length_drop, List.length_take]; rfl)) ?_; (with_reducible refine (cmp_isNaN_string.calls a0 true _ A3.out).mono ?_); rintro e w' ⟨rfl, ⟨nd, rfl⟩⟩; refine ⟨_, rfl, ?_⟩) | (go_at_call 76; (with_reducible refine (cmp_isNaN_string.calls a1 false _ A5.out).mono ?_); rintro e w' ⟨rfl, ⟨nd, rfl⟩⟩))
      go_ret
      exact ⟨by first | rfl | (simp; done) | (simp [*]; done), by repeat (first | exact Drawn0.refl _ | apply Drawn0.step)⟩
  · replace c4 := Bool.eq_false_iff.mpr c4
    subst c4
    have H1 : (some (Op.bytesLess a0.toList a1.toList)) = some r := by rw [if_neg (show ¬ (false = true) by decide)] at H; exact H
    clear H
    have H := H1
    clear H1
    obtain rfl := Option.some.inj H
    go_enter Try.func63, Try.ntmps63
    go_wp2_with (first | ((with_reducible refine gate_callee (f := 76) rfl ?_); refine goesL_ (some 6) rfl rfl Try.func76 (by kernel_rfl) rfl #[.string a0] rfl (by (try simp only [List.map_toArray, List.map_cons, List.map_nil]); first | done | rfl | (simp only [List.length_drop, List.length_take]; rfl)) ?_; (with_reducible refine (cmp_isNaN_string.calls a0 false _ A3.out).mono ?_); rintro e w' ⟨rfl, ⟨nd, rfl⟩⟩; refine ⟨_, rfl, ?_⟩))
    go_ret
    exact ⟨by first | rfl | (simp; done) | (simp [*]; done), by repeat (first | exact Drawn0.refl _ | apply Drawn0.step)⟩

/-! ### slices_isNaN_string: function 64 -/
def slices_isNaN_string.f (a0 : ByteArray) : Option (Bool) := some (a0.toList != a0.toList)
set_option maxHeartbeats 8000000 in
set_option maxRecDepth 100000 in
theorem slices_isNaN_string.calls (a0 : ByteArray) (r : Bool) (w : World) (h : slices_isNaN_string.f a0 = some r) :
    Calls Try.prog 64 #[.string a0] w fun e w' => e = .returned (.bool r) ∧ Drawn0 w w' := by
  have H : (some (a0.toList != a0.toList)) = some r := h
  clear h
  obtain rfl := Option.some.inj H
  go_enter Try.func64, Try.ntmps64
  go_wp2
  go_ret
  exact ⟨by first | rfl | (simp; done) | (simp [*]; done), by repeat (first | exact Drawn0.refl _ | apply Drawn0.step)⟩

/-! ### slices_BinarySearch_string_string: function 49 -/
def slices_BinarySearch_string_string.l0 : Nat → List ByteArray → ByteArray → Int → Int → Int → Option (Int × Bool)
  | 0, _, _, _, _, _ => none
  | k + 1, x0, x1, x6, x7, x8 => if x7 < x8 then (if 0 ≤ (wrap64 ((IntKind.u64.wrap (wrap64 (x7 + x8))) / 2)) then (if (wrap64 ((IntKind.u64.wrap (wrap64 (x7 + x8))) / 2)) < (x0.length : Int) then ((cmp_Less_string.f (rdOf ByteArray.empty x0 (wrap64 ((IntKind.u64.wrap (wrap64 (x7 + x8))) / 2))) x1).bind fun t127 => (if t127 = true then (slices_BinarySearch_string_string.l0 k x0 x1 x6 (wrap64 ((wrap64 ((IntKind.u64.wrap (wrap64 (x7 + x8))) / 2)) + 1)) x8) else (slices_BinarySearch_string_string.l0 k x0 x1 x6 x7 (wrap64 ((IntKind.u64.wrap (wrap64 (x7 + x8))) / 2))))) else (none)) else (none)) else (if x7 < x6 then (if 0 ≤ x7 then (if x7 < (x0.length : Int) then (if (rdOf ByteArray.empty x0 x7).toList = x1.toList then (some (x7, true)) else ((slices_isNaN_string.f (rdOf ByteArray.empty x0 x7)).bind fun t130 => (if t130 = true then ((slices_isNaN_string.f x1).bind fun t131 => (some (x7, t131))) else (some (x7, false))))) else (none)) else (none)) else (some (x7, false)))
def slices_BinarySearch_string_string.f (k : Nat) (l0 : List ByteArray) (a1 : ByteArray) : Option (Int × Bool) := slices_BinarySearch_string_string.l0 k l0 a1 (l0.length : Int) 0 (l0.length : Int)
theorem slices_BinarySearch_string_string.mono_l : ∀ k, (∀ y0 y1 y2 y3 y4, LeO (slices_BinarySearch_string_string.l0 k y0 y1 y2 y3 y4) (slices_BinarySearch_string_string.l0 (k + 1) y0 y1 y2 y3 y4))
  | 0 => fun _ _ _ _ _ r h => by simp [slices_BinarySearch_string_string.l0] at h
  | k + 1 => by
    have ih0 := slices_BinarySearch_string_string.mono_l k
    · intro y0 y1 y2 y3 y4
      unfold slices_BinarySearch_string_string.l0
      repeat' first
      | (with_reducible exact ih0 _ _ _ _ _)
      | (with_reducible exact LeO.refl _)
      | (with_reducible exact LeO.none _)
      | (with_reducible refine LeO.ite ?_ ?_)
      | (with_reducible refine LeO.bind ?_ (fun _ => ?_))
      | exact ih0 _ _ _ _ _
      | exact LeO.none _
      | refine LeO.ite ?_ ?_
      | refine LeO.bind ?_ (fun _ => ?_)
theorem slices_BinarySearch_string_string.mono : ∀ a0 a1 k, LeO (slices_BinarySearch_string_string.f k a0 a1) (slices_BinarySearch_string_string.f (k + 1) a0 a1) := by
  intro a0 a1 k
  have ih0 := slices_BinarySearch_string_string.mono_l k
  unfold slices_BinarySearch_string_string.f
  repeat' first
      | (with_reducible exact ih0 _ _ _ _ _)
      | (with_reducible exact LeO.refl _)
      | (with_reducible exact LeO.none _)
      | (with_reducible refine LeO.ite ?_ ?_)
      | (with_reducible refine LeO.bind ?_ (fun _ => ?_))
      | exact ih0 _ _ _ _ _
      | exact LeO.none _
      | refine LeO.ite ?_ ?_
      | refine LeO.bind ?_ (fun _ => ?_)
set_option maxHeartbeats 8000000 in
set_option maxRecDepth 100000 in
theorem slices_BinarySearch_string_string.calls (k : Nat) (A0 : Option Addr) (c0 : Nat) (l0 : List ByteArray) (a1 : ByteArray) (r1 : Int) (r2 : Bool) (w : World) (hr0 : Kd.C Kd.string w A0 l0.length l0) (hc0 : l0.length ≤ c0) (h : slices_BinarySearch_string_string.f k l0 a1 = some (r1, r2)) :
    Calls Try.prog 49 #[.slice A0 l0.length c0, .string a1] w fun e w' => e = .returned (.tuple #[.int .i64 r1, .bool r2]) ∧ Drawn0 w w' := by
  have HR0 := Aside0.mk hr0
  have HC0 := Aside0.mk hc0
  clear hr0 hc0
  have H : (slices_BinarySearch_string_string.l0 k l0 a1 (l0.length : Int) 0 (l0.length : Int)) = some (r1, r2) := h
  clear h
  have H' := Aside0.mk H
  clear H
  go_enter Try.func49, Try.ntmps49
  go_wp2
  go_loopg [7, 8] k (fun kq v7 v8 w' => ∃ (x7_1 : Int) (x8_1 : Int), v7 = .int .i64 x7_1 ∧ v8 = .int .i64 x8_1 ∧ Aside0 (slices_BinarySearch_string_string.l0 kq l0 a1 (l0.length : Int) x7_1 x8_1 = some (r1, r2)) ∧ Aside0 (kq ≤ k) ∧ Drawn0 w w')
  case atStart => exact ⟨(0), ((l0.length : Int)), (by first | rfl | (simp; done) | (simp [*]; done)), (by first | rfl | (simp; done) | (simp [*]; done)), H', ⟨Nat.le_refl _⟩, by repeat (first | exact Drawn0.refl _ | apply Drawn0.step)⟩
  case round =>
    clear H'
    try clear p2
    obtain ⟨x7_1, x8_1, rfl, rfl, HA, HK1, ⟨m1, rfl⟩⟩ := hrel
    cases gk with
    | zero => exact absurd HA.out (by simp [slices_BinarySearch_string_string.l0])
    | succ k1 =>
      have H := HA.out
      clear HA
      simp only [slices_BinarySearch_string_string.l0] at H
      by_cases c3 : x7_1 < x8_1
      · rw [if_pos c3] at H
        have c3b0 : decide (x7_1 < x8_1) = true := decide_eq_true c3
        clear c3
        obtain ⟨ji4, hji4⟩ : ∃ j_ : Int, (wrap64 ((IntKind.u64.wrap (wrap64 (x7_1 + x8_1))) / 2)) = j_ := ⟨_, rfl⟩
        replace H : (if 0 ≤ (ji4) then (if (ji4) < (l0.length : Int) then ((cmp_Less_string.f (rdOf ByteArray.empty l0 (ji4)) a1).bind fun t127 => (if t127 = true then (slices_BinarySearch_string_string.l0 k1 l0 a1 (l0.length : Int) (wrap64 ((ji4) + 1)) x8_1) else (slices_BinarySearch_string_string.l0 k1 l0 a1 (l0.length : Int) x7_1 ji4))) else (none)) else (none)) = some (r1, r2) := by first | (rw [hji4] at H; exact H) | (simp only [hji4] at H ⊢; exact H)
        have hji4w : (IntKind.i64.wrap ((IntKind.u64.wrap (wrap64 (x7_1 + x8_1))) / 2)) = ji4 := (i64_w _).trans hji4
        by_cases c5 : 0 ≤ (ji4)
        · rw [if_pos c5] at H
          have c5b0 : decide (0 ≤ (ji4)) = true := decide_eq_true c5
          clear c5
          by_cases c6 : (ji4) < (l0.length : Int)
          · rw [if_pos c6] at H
            have c6b0 : decide ((ji4) < (l0.length : Int)) = true := decide_eq_true c6
            clear c6
            replace H := Option.bind_eq_some_iff.mp H
            obtain ⟨t127, A70, H⟩ := H
            replace H : (if t127 = true then (slices_BinarySearch_string_string.l0 k1 l0 a1 (l0.length : Int) (wrap64 ((ji4) + 1)) x8_1) else (slices_BinarySearch_string_string.l0 k1 l0 a1 (l0.length : Int) x7_1 ji4)) = some (r1, r2) := H
            have A7 := Aside0.mk A70
            clear A70
            by_cases c8 : t127 = true
            · subst c8
              have H1 : (slices_BinarySearch_string_string.l0 k1 l0 a1 (l0.length : Int) (wrap64 ((ji4) + 1)) x8_1) = some (r1, r2) := by rw [if_pos rfl] at H; exact H
              clear H
              have H := H1
              clear H1
              have H' := Aside0.mk H
              clear H
              have p126 : 0 ≤ ((ji4) : Int) := of_decide_eq_true (by first | (with_reducible assumption) | assumption)
              have q126 : (ji4) < (l0.length : Int) := of_decide_eq_true (by first | (with_reducible assumption) | assumption)
              obtain ⟨ad126, e126, hx126_0⟩ := Kd.at_string HR0.out (ji4) p126 q126
              cases e126
              replace p126 := eq_true p126
              replace q126 := eq_true q126
              go_wp2_with (first | ((with_reducible refine gate_callee (f := 63) rfl ?_); refine goesL_ (some 27) rfl rfl Try.func63 (by kernel_rfl) rfl #[.string (rdOf ByteArray.empty l0 (ji4)), .string a1] rfl (by (try simp only [List.map_toArray, List.map_cons, List.map_nil]); first | done | (simp only [hji4]; rfl) | rfl | (simp only [List.length_drop, List.length_take]; rfl)) ?_; (with_reducible refine (cmp_Less_string.calls (rdOf ByteArray.empty l0 (ji4)) a1 true _ A7.out).mono ?_); rintro e w' ⟨rfl, ⟨nd, rfl⟩⟩; refine ⟨_, rfl, ?_⟩))
              go_roundg k1
              case measure => have := HK1.out; omega
              case rel => exact ⟨(wrap64 ((ji4) + 1)), (x8_1), (by first | rfl | (simp; done) | (simp only [← hji4] <;> (first | rfl | simp)) | (simp [*]; done)), (by first | rfl | (simp; done) | (simp [*]; done)), H', ⟨by have := HK1.out; omega⟩, by repeat (first | exact Drawn0.refl _ | apply Drawn0.step)⟩
            · replace c8 := Bool.eq_false_iff.mpr c8
              subst c8
              have H1 : (slices_BinarySearch_string_string.l0 k1 l0 a1 (l0.length : Int) x7_1 ji4) = some (r1, r2) := by rw [if_neg (show ¬ (false = true) by decide)] at H; exact H
              clear H
              have H := H1
              clear H1
              have H' := Aside0.mk H
              clear H
              have p126 : 0 ≤ ((ji4) : Int) := of_decide_eq_true (by first | (with_reducible assumption) | assumption)
              have q126 : (ji4) < (l0.length : Int) := of_decide_eq_true (by first | (with_reducible assumption) | assumption)
              obtain ⟨ad126, e126, hx126_0⟩ := Kd.at_string HR0.out (ji4) p126 q126
              cases e126
              replace p126 := eq_true p126
              replace q126 := eq_true q126
              go_wp2_with (first | ((with_reducible refine gate_callee (f := 63) rfl ?_); refine goesL_ (some 27) rfl rfl Try.func63 (by kernel_rfl) rfl #[.string (rdOf ByteArray.empty l0 (ji4)), .string a1] rfl (by (try simp only [List.map_toArray, List.map_cons, List.map_nil]); first | done | (simp only [hji4]; rfl) | rfl | (simp only [List.length_drop, List.length_take]; rfl)) ?_; (with_reducible refine (cmp_Less_string.calls (rdOf ByteArray.empty l0 (ji4)) a1 false _ A7.out).mono ?_); rintro e w' ⟨rfl, ⟨nd, rfl⟩⟩; refine ⟨_, rfl, ?_⟩))
              go_roundg k1
              case measure => have := HK1.out; omega
              case rel => exact ⟨(x7_1), (ji4), (by first | rfl | (simp; done) | (simp [*]; done)), (by first | rfl | (simp; done) | (simp only [← hji4] <;> (first | rfl | simp)) | (simp [*]; done)), H', ⟨by have := HK1.out; omega⟩, by repeat (first | exact Drawn0.refl _ | apply Drawn0.step)⟩
          · rw [if_neg c6] at H
            exact absurd H (by simp)
        · rw [if_neg c5] at H
          exact absurd H (by simp)
      · rw [if_neg c3] at H
        have c3b0 : decide (x7_1 < x8_1) = false := decide_eq_false c3
        clear c3
        by_cases c9 : x7_1 < (l0.length : Int)
        · rw [if_pos c9] at H
          have c9b0 : decide (x7_1 < (l0.length : Int)) = true := decide_eq_true c9
          clear c9
          by_cases c10 : 0 ≤ x7_1
          · rw [if_pos c10] at H
            have c10b0 : decide (0 ≤ x7_1) = true := decide_eq_true c10
            clear c10
            by_cases c11 : x7_1 < (l0.length : Int)
            · rw [if_pos c11] at H
              have c11b0 : decide (x7_1 < (l0.length : Int)) = true := decide_eq_true c11
              clear c11
              by_cases c12 : (rdOf ByteArray.empty l0 x7_1).toList = a1.toList
              · rw [if_pos c12] at H
                have c12b0 : ((rdOf ByteArray.empty l0 x7_1).toList == a1.toList) = true := beq_iff_eq.mpr c12
                have c12b1 : ((rdOf ByteArray.empty l0 x7_1).toList != a1.toList) = false := bne_eq_false_iff_eq.mpr c12
                clear c12
                simp only [Option.some.injEq, Prod.mk.injEq] at H
                obtain ⟨rfl, rfl⟩ := H
                have p128 : 0 ≤ (x7_1 : Int) := of_decide_eq_true (by first | (with_reducible assumption) | assumption)
                have q128 : x7_1 < (l0.length : Int) := of_decide_eq_true (by first | (with_reducible assumption) | assumption)
                obtain ⟨ad128, e128, hx128_0⟩ := Kd.at_string HR0.out x7_1 p128 q128
                cases e128
                replace p128 := eq_true p128
                replace q128 := eq_true q128
                go_wp2
                go_ret2
                exact ⟨by first | rfl | (simp; done) | (simp [*]; done), by repeat (first | exact Drawn0.refl _ | apply Drawn0.step)⟩
              · rw [if_neg c12] at H
                have c12b0 : ((rdOf ByteArray.empty l0 x7_1).toList == a1.toList) = false := beq_eq_false_iff_ne.mpr c12
                have c12b1 : ((rdOf ByteArray.empty l0 x7_1).toList != a1.toList) = true := bne_iff_ne.mpr c12
                replace H := Option.bind_eq_some_iff.mp H
                obtain ⟨t130, A130, H⟩ := H
                replace H : (if t130 = true then ((slices_isNaN_string.f a1).bind fun t131 => (some (x7_1, t131))) else (some (x7_1, false))) = some (r1, r2) := H
                have A13 := Aside0.mk A130
                clear A130
                by_cases c14 : t130 = true
                · subst c14
                  have H1 : ((slices_isNaN_string.f a1).bind fun t131 => (some (x7_1, t131))) = some (r1, r2) := by rw [if_pos rfl] at H; exact H
                  clear H
                  have H := H1
                  clear H1
                  replace H := Option.bind_eq_some_iff.mp H
                  obtain ⟨t131, A150, H⟩ := H
                  replace H : (some (x7_1, t131)) = some (r1, r2) := H
                  have A15 := Aside0.mk A150
                  clear A150
                  simp only [Option.some.injEq, Prod.mk.injEq] at H
                  obtain ⟨rfl, rfl⟩ := H
                  have p128 : 0 ≤ (x7_1 : Int) := of_decide_eq_true (by first | (with_reducible assumption) | assumption)
                  have q128 : x7_1 < (l0.length : Int) := of_decide_eq_true (by first | (with_reducible assumption) | assumption)
                  obtain ⟨ad128, e128, hx128_0⟩ := Kd.at_string HR0.out x7_1 p128 q128
                  cases e128
                  replace p128 := eq_true p128
                  replace q128 := eq_true q128
                  have p129 : 0 ≤ (x7_1 : Int) := of_decide_eq_true (by first | (with_reducible assumption) | assumption)
                  have q129 : x7_1 < (l0.length : Int) := of_decide_eq_true (by first | (with_reducible assumption) | assumption)
                  obtain ⟨ad129, e129, hx129_0⟩ := Kd.at_string HR0.out x7_1 p129 q129
                  obtain rfl : ad128 = ad129 := (by injection e129)
                  replace p129 := eq_true p129
                  replace q129 := eq_true q129
                  go_wp2_with (first | (go_at_call 64; (with_reducible refine (slices_isNaN_string.calls (rdOf ByteArray.empty l0 x7_1) true _ A13.out).mono ?_); rintro e w' ⟨rfl, ⟨nd, rfl⟩⟩) | (go_at_call 64; (with_reducible refine (slices_isNaN_string.calls a1 t131 _ A15.out).mono ?_); rintro e w' ⟨rfl, ⟨nd, rfl⟩⟩))
                  go_ret2
                  exact ⟨by first | rfl | (simp; done) | (simp [*]; done), by repeat (first | exact Drawn0.refl _ | apply Drawn0.step)⟩
                · replace c14 := Bool.eq_false_iff.mpr c14
                  subst c14
                  have H1 : (some (x7_1, false)) = some (r1, r2) := by rw [if_neg (show ¬ (false = true) by decide)] at H; exact H
                  clear H
                  have H := H1
                  clear H1
                  simp only [Option.some.injEq, Prod.mk.injEq] at H
                  obtain ⟨rfl, rfl⟩ := H
                  have p128 : 0 ≤ (x7_1 : Int) := of_decide_eq_true (by first | (with_reducible assumption) | assumption)
                  have q128 : x7_1 < (l0.length : Int) := of_decide_eq_true (by first | (with_reducible assumption) | assumption)
                  obtain ⟨ad128, e128, hx128_0⟩ := Kd.at_string HR0.out x7_1 p128 q128
                  cases e128
                  replace p128 := eq_true p128
                  replace q128 := eq_true q128
                  have p129 : 0 ≤ (x7_1 : Int) := of_decide_eq_true (by first | (with_reducible assumption) | assumption)
                  have q129 : x7_1 < (l0.length : Int) := of_decide_eq_true (by first | (with_reducible assumption) | assumption)
                  obtain ⟨ad129, e129, hx129_0⟩ := Kd.at_string HR0.out x7_1 p129 q129
                  obtain rfl : ad128 = ad129 := (by injection e129)
                  replace p129 := eq_true p129
                  replace q129 := eq_true q129
                  go_wp2_with (first | (go_at_call 64; (with_reducible refine (slices_isNaN_string.calls (rdOf ByteArray.empty l0 x7_1) false _ A13.out).mono ?_); rintro e w' ⟨rfl, ⟨nd, rfl⟩⟩))
                  go_ret2
                  exact ⟨by first | rfl | (simp; done) | (simp [*]; done), by repeat (first | exact Drawn0.refl _ | apply Drawn0.step)⟩
            · rw [if_neg c11] at H
              exact absurd H (by simp)
          · rw [if_neg c10] at H
            exact absurd H (by simp)
        · rw [if_neg c9] at H
          have c9b0 : decide (x7_1 < (l0.length : Int)) = false := decide_eq_false c9
          clear c9
          simp only [Option.some.injEq, Prod.mk.injEq] at H
          obtain ⟨rfl, rfl⟩ := H
          go_wp2
          go_ret2
          exact ⟨by first | rfl | (simp; done) | (simp [*]; done), by repeat (first | exact Drawn0.refl _ | apply Drawn0.step)⟩

/-! ### bits_Len: function 60 -/
def bits_Len.f (a0 : Int) : Option (Int) := if 0 ≤ a0 then (if a0 ≤ 18446744073709551615 then some (Lib.bitLen a0.toNat : Int) else none) else none
theorem bits_Len.calls (a0 : Int) (r : Int) (w : World) (h : bits_Len.f a0 = some r) :
    Calls Try.prog 60 #[.int .u64 a0] w fun e w' => e = .returned (.int .i64 r) ∧ Drawn0 w w' := by
  unfold bits_Len.f at h
  by_cases h0 : 0 ≤ a0
  · rw [if_pos h0] at h
    by_cases h1 : a0 ≤ 18446744073709551615
    · rw [if_pos h1] at h
      obtain rfl := Option.some.inj h
      exact (Go.Proofs.Try.bits_Len a0 w h0 h1).mono fun e w' ⟨he, hw⟩ => ⟨he, by rw [hw]; exact Drawn0.refl _⟩
    · rw [if_neg h1] at h; cases h
  · rw [if_neg h0] at h; cases h

/-! ### texts_width: function 50 -/
def texts_width.f (a0 : Int) : Option (Int) := (bits_Len.f (IntKind.u64.wrap (mx (wrap64 (a0 - 1)) 0))).bind fun t132 => (some t132)
set_option maxHeartbeats 8000000 in
set_option maxRecDepth 100000 in
theorem texts_width.calls (a0 : Int) (r : Int) (w : World) (h : texts_width.f a0 = some r) :
    Calls Try.prog 50 #[.int .i64 a0] w fun e w' => e = .returned (.int .i64 r) ∧ Below w.heap.size w w' := by
  have HB := Aside0.mk (Below.refl w.heap.size w)
  have H : ((bits_Len.f (IntKind.u64.wrap (mx (wrap64 (a0 - 1)) 0))).bind fun t132 => (some t132)) = some r := h
  clear h
  obtain ⟨ji2, hji2⟩ : ∃ j_ : Int, (mx (wrap64 (a0 - 1)) 0) = j_ := ⟨_, rfl⟩
  replace H : ((bits_Len.f (IntKind.u64.wrap (ji2))).bind fun t132 => (some t132)) = some r := by first | (rw [hji2] at H; exact H) | (simp only [hji2] at H ⊢; exact H)
  (try (have hji2l : 0 ≤ ji2 := by (rw [← hji2]; unfold mx; (repeat' split) <;> omega)))
  (try (have hji2m : 0 ≤ ji2 := by omega))
  have hji2_ : (if (wrap64 (a0 - 1)) < 0 then 0 else (wrap64 (a0 - 1))) = ji2 := hji2
  replace H := Option.bind_eq_some_iff.mp H
  obtain ⟨t132, A30, H⟩ := H
  replace H : (some t132) = some r := H
  have A3 := Aside0.mk A30
  clear A30
  obtain rfl := Option.some.inj H
  go_enter Try.func50, Try.ntmps50
  go_wp2_with (first | ((with_reducible refine gate_callee (f := 60) rfl ?_); refine goesL_ (some 7) rfl rfl Try.func60 (by kernel_rfl) rfl #[.int .u64 (IntKind.u64.wrap (ji2))] rfl (by (try simp only [List.map_toArray, List.map_cons, List.map_nil]); first | done | (simp only [hji2]; rfl) | rfl | (simp only [List.length_drop, List.length_take]; rfl)) ?_; (with_reducible refine (bits_Len.calls (IntKind.u64.wrap (ji2)) t132 _ A3.out).mono ?_); rintro e w' ⟨rfl, ⟨nd, rfl⟩⟩; refine ⟨_, rfl, ?_⟩))
  go_ret
  exact ⟨by first | rfl | (simp [errW_none, errW_some] <;> rfl) | (simp only [← hji2]; first | rfl | (simp [errW_none, errW_some] <;> rfl)) | (simp [*, errW_none, errW_some] <;> rfl), by repeat (first | (with_reducible first | exact HB.out | apply below_alloc | apply pw_below_drewN | apply below_drew1) | exact HB.out)⟩

end Go.Proofs.Ytieddojplhmhgaa.PTextsOrder
