/- WRITTEN BY A PROGRAM of this session (wip/tool: a turned copy of the printer), out of the translation: Lean functions with the answers of the Go functions, and the proofs that the Go code comes to them. -/
import Derived.Test.YtbkocklahdlgkaaDoorPTextsBackx0
namespace Go.Proofs.YtbkocklahdlgkaaDoor.PTextsBack
open Go.RowKit Go.Proofs.YtbkocklahdlgkaaDoorW.PrintWords Go.Proofs.YtbkocklahdlgkaaDoorW.PrintLast Go.Proofs.YtbkocklahdlgkaaDoorW.PrintMore
attribute [local go_sem] max2_int min2_int max_two min_two max_three min_three max_four min_four   -- for this text's walks alone
set_option linter.unusedVariables false
set_option linter.unusedSimpArgs false

/-! ### estreatref13_Great: function 7 -/
mutual
def estreatref13_Great.l0 : Nat → List ByteArray → Int → Int → Int → Option (Bool)
  | 0, _, _, _, _ => none
  | k + 1, x0, x1, x2, x7 => if x7 < (x0.length : Int) then (estreatref13_Great.j1 k x0 x1 x2 x7 (decide (x7 < x1))) else (estreatref13_Great.j1 k x0 x1 x2 x7 false)
def estreatref13_Great.j1 : Nat → List ByteArray → Int → Int → Int → Bool → Option (Bool)
  | 0, _, _, _, _, _ => none
  | k + 1, x0, x1, x2, x7, x16 => if x16 = true then (if 0 ≤ x7 then (if x7 < (x0.length : Int) then (if ((rdOf ByteArray.empty x0 x7).size : Int) > x2 then (some true) else (estreatref13_Great.l0 k x0 x1 x2 (wrap64 (x7 + 1)))) else (none)) else (none)) else (some (decide ((x0.length : Int) > x1)))
end
def estreatref13_Great.f (k : Nat) (l0 : List ByteArray) (a1 : Int) (a2 : Int) : Option (Bool) := estreatref13_Great.l0 k l0 a1 a2 0
set_option maxHeartbeats 8000000 in
set_option maxRecDepth 100000 in
theorem estreatref13_Great.calls (k : Nat) (A0 : Option Addr) (c0 : Nat) (l0 : List ByteArray) (a1 : Int) (a2 : Int) (r : Bool) (w : World) (hr0 : Kd.C Kd.string w A0 l0.length l0) (hc0 : l0.length ≤ c0) (h : estreatref13_Great.f k l0 a1 a2 = some r) :
    Calls Tryd.prog 7 #[.slice A0 l0.length c0, .int .i64 a1, .int .i64 a2] w fun e w' => e = .returned (.bool r) ∧ Drawn0 w w' := by
  have HR0 := Aside0.mk hr0
  have HC0 := Aside0.mk hc0
  clear hr0 hc0
  have H : (estreatref13_Great.l0 k l0 a1 a2 0) = some r := h
  clear h
  have H' := Aside0.mk H
  clear H
  go_enter Tryd.func7, Tryd.ntmps7
  go_wp2
  go_loopg [7] k (fun kq v7 w' => ∃ (x7_1 : Int), v7 = .int .i64 x7_1 ∧ Aside0 (estreatref13_Great.l0 kq l0 a1 a2 x7_1 = some r) ∧ Aside0 (kq ≤ k) ∧ Drawn0 w w')
  case atStart => exact ⟨(0), (by first | rfl | (simp; done) | (simp [*]; done)), H', ⟨Nat.le_refl _⟩, by repeat (first | exact Drawn0.refl _ | apply Drawn0.step)⟩
  case round =>
    clear H'
    try clear p2
    obtain ⟨x7_1, rfl, HA, HK1, ⟨m1, rfl⟩⟩ := hrel
    cases gk with
    | zero => exact absurd HA.out (by simp [estreatref13_Great.l0])
    | succ k1 =>
      have H := HA.out
      clear HA
      simp only [estreatref13_Great.l0] at H
      have HC4 := Aside0.mk H
      clear H
      go_upto_region 2 with (fail)
      go_cut [16] (fun v16 wc => ∃ (kq : Nat) (x16_3 : Bool), v16 = .bool x16_3 ∧ Aside0 (estreatref13_Great.j1 kq l0 a1 a2 x7_1 x16_3 = some r) ∧ Aside0 (kq ≤ k1) ∧ Drawn0 w wc)
      case first =>
        have H := HC4.out
        clear HC4
        by_cases c5 : x7_1 < (l0.length : Int)
        · rw [if_pos c5] at H
          have c5b0 : decide (x7_1 < (l0.length : Int)) = true := decide_eq_true c5
          clear c5
          (first | rw [c5b0] | (simp only [i64_w, i32_w]; rw [c5b0]) | skip)
          have H' := Aside0.mk H
          clear H
          go_wp2
          go_meet
          case rel => exact ⟨_, (decide (x7_1 < a1)), (by first | rfl | (simp; done) | (simp [*]; done)), H', ⟨by have := HK1.out; first | omega | exact Nat.le_refl _⟩, by repeat (first | exact Drawn0.refl _ | apply Drawn0.step)⟩
        · rw [if_neg c5] at H
          have c5b0 : decide (x7_1 < (l0.length : Int)) = false := decide_eq_false c5
          clear c5
          (first | rw [c5b0] | (simp only [i64_w, i32_w]; rw [c5b0]) | skip)
          have H' := Aside0.mk H
          clear H
          go_wp2
          go_meet
          case rel => exact ⟨_, (false), (by first | rfl | (simp; done) | (simp [*]; done)), H', ⟨by have := HK1.out; first | omega | exact Nat.le_refl _⟩, by repeat (first | exact Drawn0.refl _ | apply Drawn0.step)⟩
      case rest =>
        clear HC4
        try clear p2
        try clear c5
        try clear c5b0
        try clear p2
        obtain ⟨kq, x16_3, rfl, HA, HJ3, ⟨mc3, rfl⟩⟩ := hcut
        cases kq with
        | zero => exact absurd HA.out (by simp [estreatref13_Great.j1])
        | succ kj3 =>
          have H := HA.out
          clear HA
          simp only [estreatref13_Great.j1] at H
          by_cases c6 : x16_3 = true
          · subst c6
            have H1 : (if 0 ≤ x7_1 then (if x7_1 < (l0.length : Int) then (if ((rdOf ByteArray.empty l0 x7_1).size : Int) > a2 then (some true) else (estreatref13_Great.l0 kj3 l0 a1 a2 (wrap64 (x7_1 + 1)))) else (none)) else (none)) = some r := by rw [if_pos rfl] at H; exact H
            clear H
            have H := H1
            clear H1
            by_cases c7 : 0 ≤ x7_1
            · rw [if_pos c7] at H
              have c7b0 : decide (0 ≤ x7_1) = true := decide_eq_true c7
              clear c7
              by_cases c8 : x7_1 < (l0.length : Int)
              · rw [if_pos c8] at H
                have c8b0 : decide (x7_1 < (l0.length : Int)) = true := decide_eq_true c8
                clear c8
                by_cases c9 : ((rdOf ByteArray.empty l0 x7_1).size : Int) > a2
                · rw [if_pos c9] at H
                  have c9b0 : decide (a2 < ((rdOf ByteArray.empty l0 x7_1).size : Int)) = true := decide_eq_true c9
                  clear c9
                  obtain rfl := Option.some.inj H
                  have p101 : 0 ≤ (x7_1 : Int) := of_decide_eq_true (by first | (with_reducible assumption) | assumption)
                  have q101 : x7_1 < (l0.length : Int) := of_decide_eq_true (by first | (with_reducible assumption) | assumption)
                  obtain ⟨ad101, e101, hx101_0⟩ := Kd.at_string HR0.out x7_1 p101 q101
                  cases e101
                  replace p101 := eq_true p101
                  replace q101 := eq_true q101
                  go_wp2
                  go_ret
                  exact ⟨by first | rfl | (simp; done) | (simp [*]; done), by repeat (first | exact Drawn0.refl _ | apply Drawn0.step)⟩
                · rw [if_neg c9] at H
                  have c9b0 : decide (a2 < ((rdOf ByteArray.empty l0 x7_1).size : Int)) = false := decide_eq_false c9
                  clear c9
                  have H' := Aside0.mk H
                  clear H
                  have p101 : 0 ≤ (x7_1 : Int) := of_decide_eq_true (by first | (with_reducible assumption) | assumption)
                  have q101 : x7_1 < (l0.length : Int) := of_decide_eq_true (by first | (with_reducible assumption) | assumption)
                  obtain ⟨ad101, e101, hx101_0⟩ := Kd.at_string HR0.out x7_1 p101 q101
                  cases e101
                  replace p101 := eq_true p101
                  replace q101 := eq_true q101
                  go_wp2
                  go_roundg kj3
                  case measure => have := HK1.out; have := HJ3.out; omega
                  case rel => exact ⟨(wrap64 (x7_1 + 1)), (by first | rfl | (simp; done) | (simp [*]; done)), H', ⟨by have := HK1.out; have := HJ3.out; omega⟩, by repeat (first | exact Drawn0.refl _ | apply Drawn0.step)⟩
              · rw [if_neg c8] at H
                exact absurd H (by simp)
            · rw [if_neg c7] at H
              exact absurd H (by simp)
          · replace c6 := Bool.eq_false_iff.mpr c6
            subst c6
            have H1 : (some (decide ((l0.length : Int) > a1))) = some r := by rw [if_neg (show ¬ (false = true) by decide)] at H; exact H
            clear H
            have H := H1
            clear H1
            obtain rfl := Option.some.inj H
            go_wp2
            go_ret
            exact ⟨by first | rfl | (simp; done) | (simp [*]; done), by repeat (first | exact Drawn0.refl _ | apply Drawn0.step)⟩

/-! ### slices_IndexFunc_string_string: function 60 -/
def slices_IndexFunc_string_string.p (s : ByteArray) : Bool := decide (65536 < s.size)
def slices_IndexFunc_string_string.f (l0 : List ByteArray) : Option Int := some (Go.Lib.idxBy (fun _ y => slices_IndexFunc_string_string.p y) l0 default)
set_option maxHeartbeats 1000000 in
theorem slices_IndexFunc_string_string.pred (x : ByteArray) (W : World) : Calls Tryd.prog 24 #[.string x] W fun e w' => e = .returned (.bool (slices_IndexFunc_string_string.p x)) ∧ ∃ q, w' = W.drewN q := by
  unfold slices_IndexFunc_string_string.p
  go_enter Tryd.func24, Tryd.ntmps24
  go_wp2
  all_goals (go_ret; exact ⟨by first | rfl | (simp; done) | (simp; omega), 0, rfl⟩)
set_option maxHeartbeats 4000000 in
theorem slices_IndexFunc_string_string.calls (A0 : Option Addr) (c0 : Nat) (l0 : List ByteArray) (r : Int) (w : World) (hr0 : Kd.string.C w A0 l0.length l0) (hc0 : l0.length ≤ c0) (h : slices_IndexFunc_string_string.f l0 = some r) :
    Calls Tryd.prog 60 #[.slice A0 l0.length c0, .func (.func 24) #[] #[]] w fun e w' => e = .returned (.int .i64 r) ∧ Drawn0 w w' := by
  have hr := Option.some.inj h
  clear h
  have hlen := hr0.2.1
  have HR0 := Aside0.mk hr0
  have HRR := Aside0.mk hr
  clear hr0 hc0 hr
  go_enter Tryd.func60, Tryd.ntmps60
  go_wp2
  go_loopg [5, 8] l0.length (fun gg _ s8 wr => ∃ (x : Int) (q : Nat), Aside0 (0 ≤ x ∧ x ≤ (l0.length : Int) ∧ l0.length - x.toNat ≤ gg) ∧ s8 = .int .i64 x ∧ wr = w.drewN q ∧ Aside (∀ j, j < x.toNat → slices_IndexFunc_string_string.p l0[j]! = false))
  case atStart => exact ⟨0, 0, ⟨by omega, by omega, by omega⟩, rfl, rfl, fun j hj => absurd hj (Nat.not_lt_zero _)⟩
  case round =>
    obtain ⟨x, q, HX, rfl, rfl, A⟩ := hrel
    by_cases hlt : x < (l0.length : Int)
    · have p1 : 0 ≤ x := HX.out.1
      obtain ⟨ad1, e1, hx1⟩ := Kd.at_string HR0.out x p1 hlt
      cases e1
      have hget : l0[x.toNat]! = rdOf ByteArray.empty l0 x := by
        have hj : x.toNat < l0.length := by omega
        rw [List.getElem!_eq_getElem?_getD, List.getElem?_eq_getElem hj]
        unfold rdOf
        rw [List.getD_eq_getElem?_getD, List.getElem?_eq_getElem hj]; rfl
      generalize hy : rdOf ByteArray.empty l0 x = y at hx1 hget
      have HGe := Aside0.mk hget
      clear hget hy
      have hb0 : decide (x < (l0.length : Int)) = true := decide_eq_true hlt
      have HLT := Aside0.mk hlt
      have q1 := eq_true hlt
      have p1' := eq_true p1
      clear hlt p1
      have hcall := slices_IndexFunc_string_string.pred y
      cases hq : slices_IndexFunc_string_string.p y with
      | true =>
        rw [hq] at hcall
        have HQ := Aside0.mk hq
        clear hq
        go_wp2_with (go_at_call 24; refine (hcall _).mono ?_; rintro e w' ⟨rfl, q', rfl⟩)
        go_ret
        refine ⟨?_, _, rfl⟩
        rw [← HRR.out]
        have hk := Go.Lib.idxBy_hit (fun _ y => slices_IndexFunc_string_string.p y) l0 l0.length x.toNat default (by have := HLT.out; have := HX.out; omega) (Nat.le_refl _) (by show slices_IndexFunc_string_string.p l0[x.toNat]! = true; rw [HGe.out]; exact HQ.out) A.out
        rw [List.take_length] at hk
        rw [hk, Int.toNat_of_nonneg HX.out.1]
        rfl
      | false =>
        rw [hq] at hcall
        have HQ := Aside0.mk hq
        clear hq
        go_wp2_with (go_at_call 24; refine (hcall _).mono ?_; rintro e w' ⟨rfl, q', rfl⟩)
        go_roundg (l0.length - (x.toNat + 1))
        case measure => have := HX.out; have := HLT.out; omega
        case rel =>
          have h1 := HX.out
          have h2 := HLT.out
          have hw : wrap64 (x + 1) = x + 1 := by unfold wrap64; omega
          refine ⟨wrap64 (x + 1), _, ⟨by omega, by omega, by omega⟩, rfl, rfl, (show Aside _ from fun j hj => ?_)⟩
          rw [hw] at hj
          by_cases e : j = x.toNat
          · subst e
            rw [HGe.out]; exact HQ.out
          · exact A.out j (by omega)
    · have hb0 : decide (x < (l0.length : Int)) = false := decide_eq_false hlt
      have HLT := Aside0.mk hlt
      clear hlt
      go_wp2
      go_ret
      refine ⟨?_, q, rfl⟩
      rw [← HRR.out]
      have hm := Go.Lib.idxBy_miss (fun _ y => slices_IndexFunc_string_string.p y) l0 l0.length default (fun j hj => A.out j (by have := HLT.out; have := HX.out; omega))
      rw [List.take_length] at hm
      rw [hm]
      rfl

/-! ### slices_ContainsFunc_string_string: function 23 -/
def slices_ContainsFunc_string_string.f (l0 : List ByteArray) : Option Bool := some (l0.any slices_IndexFunc_string_string.p)
set_option maxHeartbeats 1000000 in
theorem slices_ContainsFunc_string_string.calls (A0 : Option Addr) (c0 : Nat) (l0 : List ByteArray) (r : Bool) (w : World) (hr0 : Kd.string.C w A0 l0.length l0) (hc0 : l0.length ≤ c0) (h : slices_ContainsFunc_string_string.f l0 = some r) :
    Calls Tryd.prog 23 #[.slice A0 l0.length c0, .func (.func 24) #[] #[]] w fun e w' => e = .returned (.bool r) ∧ Drawn0 w w' := by
  have hr := Option.some.inj h
  have hcall := slices_IndexFunc_string_string.calls A0 c0 l0 _ w hr0 hc0 rfl
  rw [← Go.Lib.idxBy_nonneg_iff (fun _ y => slices_IndexFunc_string_string.p y) l0 default] at hr
  generalize Go.Lib.idxBy (fun _ y => slices_IndexFunc_string_string.p y) l0 default = i at *
  clear hr0 hc0 h
  subst hr
  go_enter Tryd.func23, Tryd.ntmps23
  go_wp2_with (go_at_call 60; refine hcall.mono ?_; rintro e w' ⟨rfl, q, rfl⟩)
  go_ret
  exact ⟨rfl, q, rfl⟩

/-! ### slices_Clone_string_string: function 61 -/
def slices_Clone_string_string.f (l0 : List ByteArray) : Option (List ByteArray) := if l0.length * 16 ≤ 140737488355328 then some l0 else none
theorem slices_Clone_string_string.info : (Tryd.prog.info? 9).map (fun i => (i.zero, i.size, i.bytes)) = some (some (.string ByteArray.empty), 1, 16) := by kernel_rfl
theorem slices_Clone_string_string.under : Tryd.prog.underlying 22 = some (.slice 9) := by kernel_rfl
set_option maxHeartbeats 4000000 in
theorem slices_Clone_string_string.calls (A0 : Option Addr) (c0 : Nat) (l0 : List ByteArray) (r : List ByteArray) (w : World) (hr0 : Kd.string.C w A0 l0.length l0) (hc0 : l0.length ≤ c0) (h : slices_Clone_string_string.f l0 = some r) :
    Calls Tryd.prog 61 #[.slice A0 l0.length c0] w fun e w' => ∃ v0_ : Value, e = .returned v0_ ∧ Kd.string.R 9 w' w.heap.size (fun _ => True) v0_ r ∧ Below w.heap.size w w' := by
  unfold slices_Clone_string_string.f at h
  by_cases hl : l0.length * 16 ≤ 140737488355328
  · rw [if_pos hl] at h
    obtain rfl := Option.some.inj h
    cases A0 with
    | none =>
      have h0 : l0 = [] := by
        rcases l0 with _ | ⟨x, l⟩
        · rfl
        · obtain ⟨ad, e, _⟩ := hr0.2.2 (by simp)
          cases e
      subst h0
      have e1 : ∀ w, (binOp BinOp.eql 22 (.slice none ([] : List ByteArray).length c0) (.slice none 0 0)).run Tryd.prog w = .ok (.bool true) w := fun w => by kernel_rfl
      simp only [List.length_nil] at e1 ⊢
      go_enter Tryd.func61, Tryd.ntmps61
      go_wp2
      go_ret
      exact ⟨_, rfl, Kd.R_nil _ _ _ _ _, Below.refl _ _⟩
    | some ad =>
      have e1 : ∀ w, (binOp BinOp.eql 22 (.slice (some ad) l0.length c0) (.slice none 0 0)).run Tryd.prog w = .ok (.bool false) w := fun w => by kernel_rfl
      have hB1 : Below w.heap.size w (w.alloc (.cells #[] 9)) := below_alloc (Below.refl _ _) _
      have hR1 : Kd.string.R 9 (w.alloc (.cells #[] 9)) w.heap.size (fun _ => True) (.slice (some ⟨w.heap.size, 0, none⟩) 0 0) [] :=
        Kd.R_of_own (h1 := fun _ => rfl) (by simpa [encs] using World.ownsRow_lit (base := w.heap.size) (e := 9) (size := 1) w #[] 0 (Nat.le_refl _) (by decide) (by simp)) (fun _ _ => trivial)
      have hC1 := Kd.C_below hr0 hB1
      go_enter Tryd.func61, Tryd.ntmps61
      go_wp2_with ((with_reducible refine gate_builtin (b := .append) (xs := #[.tmp 5, .tmp 6]) rfl ?_); at_builtin; refine Kd.R_append_rows Kd.string (w0 := w) w.heap.size rfl (.tmp 5) (.tmp 6) 22 9 (.string ByteArray.empty) 16 rfl slices_Clone_string_string.under slices_Clone_string_string.info rfl (by decide) (by omega) _ [] l0 _ _ _ (fun _ => True) (fun _ => False) rfl rfl hR1 hC1 (fun _ _ h => h) (fun _ h => h.elim) (fun _ _ => trivial) hB1 (by simp) (by simpa using hl) ?_; intro v1 w1 ho hb hg hat)
      go_ret
      exact ⟨_, rfl, by simpa using ho, hb⟩
  · rw [if_neg hl] at h; cases h

/-! ### texts_List: function 25 -/
/-- A text as its list of bytes, and back. -/
def texts_List.ls (l : List ByteArray) : List (List UInt8) := l.map (·.data.toList)
def texts_List.bs (l : List (List UInt8)) : List ByteArray := l.map fun s => ⟨s.toArray⟩
def texts_List.srt (l0 : List ByteArray) : List (List UInt8) := (texts_List.ls l0).mergeSort fun x y => decide (x ≤ y)
def texts_List.f (l0 : List ByteArray) : Option (List ByteArray) := if l0.length * 16 ≤ 140737488355328 then some (texts_List.bs (Go.Lib.compact (texts_List.srt l0))) else none
theorem texts_List.ls_enc (l : List ByteArray) : (texts_List.ls l).map encStr = l.map Value.string := Go.Lib.map_encStr l
theorem texts_List.bs_enc (l : List (List UInt8)) : (texts_List.bs l).map Value.string = l.map encStr := by simp [texts_List.bs, encStr, Function.comp_def]
theorem texts_List.eql (P : Program) (T : TypeId) : EqlAt P T encStr (fun x y => decide (x = y)) :=
  ⟨fun x y w => by
    have h := (EqlAt.string P T).1 ⟨x.toArray⟩ ⟨y.toArray⟩ w
    simp only [ByteArray.toList_eq] at h
    exact h.trans (by by_cases e : x = y <;> simp [e]), fun op a b x y w => GuardAt.string P T op a b ⟨x.toArray⟩ ⟨y.toArray⟩ w⟩
theorem texts_List.neq (P : Program) (T : TypeId) : NeqAt P T encStr (fun x y => decide (x = y)) :=
  ⟨fun x y w => by
    have h := (NeqAt.string P T).1 ⟨x.toArray⟩ ⟨y.toArray⟩ w
    simp only [ByteArray.toList_eq] at h
    exact h.trans (by by_cases e : x = y <;> simp [e]), fun op a b x y w => GuardAt.string P T op a b ⟨x.toArray⟩ ⟨y.toArray⟩ w⟩
theorem texts_List.grow_below (w : World) (os : Array Obj) : Below w.heap.size w (Go.Sort.grow w os) := ⟨rfl, rfl, rfl, by simp, fun k hk => Go.Sort.heap_grow_old w os hk⟩
/-- What the three calls leave, outside the walk. -/
theorem texts_List.left {w w1 : World} {g cap nn q : Nat} {os : Array Obj} {l0 : List ByteArray} {ts : List (List UInt8)} (hl2 : ts.length = l0.length) (hR : Kd.string.R 9 w1 w.heap.size (fun _ => True) (.slice (some ⟨g, 0, none⟩) l0.length cap) l0) (hbel : Below w.heap.size w w1) (hbg : w.heap.size ≤ g) (hgl : g < w1.heap.size) :
    Kd.string.R 9 (Go.Sort.putRow encStr (Go.Sort.ahead (Go.Sort.grow (Go.Sort.putRow encStr (Go.Sort.ahead w1 nn) g 0 ts.toArray) os) q) g 0 (Go.Lib.compact ts ++ List.replicate (l0.length - (Go.Lib.compact ts).length) []).toArray) w.heap.size (fun _ => True) (.slice (some ⟨g, 0, none⟩) (Go.Lib.compact ts).length cap) (texts_List.bs (Go.Lib.compact ts)) ∧
    Below w.heap.size w (Go.Sort.putRow encStr (Go.Sort.ahead (Go.Sort.grow (Go.Sort.putRow encStr (Go.Sort.ahead w1 nn) g 0 ts.toArray) os) q) g 0 (Go.Lib.compact ts ++ List.replicate (l0.length - (Go.Lib.compact ts).length) []).toArray) := by
  have hle := Go.Lib.compact_length_le ts
  have hown : w1.ownsRow w.heap.size 9 1 (.slice (some ⟨g, 0, none⟩) l0.length cap) l0.length ((texts_List.ls l0).map encStr) := by rw [texts_List.ls_enc]; exact Kd.own_of_R hR
  have hls : (texts_List.ls l0).length = l0.length := by simp [texts_List.ls]
  generalize texts_List.ls l0 = ss at *
  have h1 := Go.Lib.ownsRow_putRow (q := nn) (k := l0.length) (ys := ts) hown hl2 (Nat.le_refl _)
  rw [← hl2, List.take_length] at h1
  have hb1 := Go.Lib.below_putRow (enc := encStr) (q := nn) (d := ts.toArray) hbel hbg
  have h2 := pw_own_below h1 (texts_List.grow_below _ os)
  have hb2 := hb1.trans ((texts_List.grow_below (Go.Sort.putRow encStr (Go.Sort.ahead w1 nn) g 0 ts.toArray) os).mono (by simpa using hbel.size))
  rw [hl2] at h2 hle
  have h3 := Go.Lib.ownsRow_putRow (q := q) (k := (Go.Lib.compact ts).length) (ys := Go.Lib.compact ts ++ List.replicate (l0.length - (Go.Lib.compact ts).length) []) h2 (by simp; omega) hle
  rw [List.take_left, ← texts_List.bs_enc] at h3
  have hbl : (texts_List.bs (Go.Lib.compact ts)).length = (Go.Lib.compact ts).length := by simp [texts_List.bs]
  rw [← hbl] at h3
  rw [hbl] at h3
  refine ⟨?_, Go.Lib.below_putRow hb2 hbg⟩
  have h4 := Kd.R_of_own (xs := texts_List.bs (Go.Lib.compact ts)) (enc := Value.string) (h1 := fun _ => rfl) (by rw [hbl]; exact h3) (fun _ _ => trivial)
  first | exact h4 | (rw [hbl] at h4; exact h4)
theorem texts_List.compact_nil (w : World) : Calls Tryd.prog 63 #[.slice none 0 0] w fun e w' => e = .returned (.slice none 0 0) ∧ w' = w := by
  go_enter Tryd.func63, Tryd.ntmps63
  go_wp2
  go_ret
  exact ⟨rfl, rfl⟩
set_option maxHeartbeats 4000000 in
theorem texts_List.calls (A0 : Option Addr) (c0 : Nat) (l0 : List ByteArray) (r : List ByteArray) (w : World) (hr0 : Kd.string.C w A0 l0.length l0) (hc0 : l0.length ≤ c0) (h : texts_List.f l0 = some r) :
    Calls Tryd.prog 25 #[.slice A0 l0.length c0] w fun e w' => ∃ v0_ : Value, e = .returned v0_ ∧ Kd.string.R 9 w' w.heap.size (fun _ => True) v0_ r ∧ Below w.heap.size w w' := by
  unfold texts_List.f at h
  by_cases hl : l0.length * 16 ≤ 140737488355328
  case neg => rw [if_neg hl] at h; cases h
  rw [if_pos hl] at h
  obtain rfl := Option.some.inj h
  have hcl := slices_Clone_string_string.calls A0 c0 l0 l0 w hr0 hc0 (by unfold slices_Clone_string_string.f; rw [if_pos hl])
  clear hr0 h
  go_enter Tryd.func25, Tryd.ntmps25
  go_wp2_with (go_at_call 61; refine hcl.mono ?_; rintro e w1 ⟨v1, rfl, hR, hbel⟩)
  have hown : w1.ownsRow w.heap.size 9 1 v1 l0.length ((texts_List.ls l0).map encStr) := by rw [texts_List.ls_enc]; exact Kd.own_of_R hR
  by_cases hv : v1 = .slice none 0 0
  · subst hv
    have h0 : l0 = [] := by
      rcases hown.2 with ⟨_, h0⟩ | ⟨g, cap, cur, e0, _⟩
      · exact List.eq_nil_of_length_eq_zero h0
      · cases e0
    subst h0
    go_wp2_with (first | (go_at_call 62; refine (Go.Proofs.Tryd.slices_Sort_string_none none 0 w1).mono ?_; rintro e w2 ⟨rfl, rfl⟩) | (go_at_call 63; refine (texts_List.compact_nil w2).mono ?_; rintro e w3 ⟨rfl, rfl⟩))
    go_ret
    exact ⟨_, rfl, by rw [show texts_List.bs (Go.Lib.compact (texts_List.srt ([] : List ByteArray))) = [] from by simp [texts_List.bs, texts_List.srt, texts_List.ls, Go.Lib.compact, Go.Lib.compactUpTo]]; exact hR, hbel⟩
  · obtain ⟨g, cap, rfl, hbg, hgl, hncap, hcm, _, hH⟩ := Go.Lib.holds_of_ownsRow hown hv
    have hlen : l0.length < 4611686018427387904 := by omega
    have hlsl : (texts_List.ls l0).length = l0.length := by simp [texts_List.ls]
    have hsort := Go.Proofs.Tryd.slices_Sort_string g 0 cap (texts_List.ls l0) w1 hH hgl (by rw [hlsl]; exact hlen)
    rw [hlsl] at hsort
    have hl2 : (texts_List.srt l0).length = l0.length := (List.length_mergeSort _).trans hlsl
    have hleft : ∀ nn q os, _ := fun nn q os => texts_List.left (nn := nn) (q := q) (os := os) hl2 hR hbel hbg hgl
    obtain ⟨ts, hts⟩ : ∃ ts, ts = texts_List.srt l0 := ⟨_, rfl⟩
    have hts2 : (texts_List.ls l0).mergeSort (fun x y => decide (x ≤ y)) = ts := hts.symm
    rw [hts2] at hsort
    rw [← hts] at hleft hl2
    have HT := Aside0.mk hts
    clear hts hts2
    have hcomp : ∀ nn os, Calls Tryd.prog 63 #[.slice (some ⟨g, 0, none⟩) l0.length cap] (Go.Sort.grow (Go.Sort.putRow encStr (Go.Sort.ahead w1 nn) g 0 ts.toArray) os) fun e w' => e = .returned (.slice (some ⟨g, 0, none⟩) (Go.Lib.compact ts).length cap) ∧ ∃ q, w' = Go.Sort.putRow encStr (Go.Sort.ahead (Go.Sort.grow (Go.Sort.putRow encStr (Go.Sort.ahead w1 nn) g 0 ts.toArray) os) q) g 0 (Go.Lib.compact ts ++ List.replicate (l0.length - (Go.Lib.compact ts).length) []).toArray := by
      intro nn os
      have hH2 : Go.Sort.Holds encStr (Go.Sort.grow (Go.Sort.putRow encStr (Go.Sort.ahead w1 nn) g 0 ts.toArray) os) g 0 ts.toArray :=
        Go.Sort.holds_grow _ _ os g 0 _ (by simpa using hgl) (Go.Sort.holds_putRow _ _ g 0 _ _ (Go.Sort.holds_ahead _ w1 nn g 0 _ hH) (by simp [hl2, hlsl]))
      have := Go.Proofs.Tryd.slices_Compact_f63 encStr (fun _ => rfl) (texts_List.eql _ _) (texts_List.neq _ _) [] (fun w => by kernel_rfl) g 0 cap ts.toArray _ hH2 (by simp; omega) (by simp; omega)
      rw [List.size_toArray, hl2] at this
      have e1 : Go.Lib.compactUpTo ts.toArray l0.length = Go.Lib.compact ts := by unfold Go.Lib.compact; rw [hl2]
      rw [e1] at this
      exact this
    have HL := Aside0.mk hleft
    clear hleft hH hR hown hbel hcl
    go_wp2_with (first | (go_at_call 62; refine hsort.mono ?_; rintro e w2 ⟨rfl, nn, os, rfl⟩) | (go_at_call 63; refine (hcomp nn os).mono ?_; rintro e w3 ⟨rfl, q, rfl⟩))
    go_ret
    exact ⟨_, rfl, by rw [← HT.out]; exact (HL.out nn q os).1, (HL.out nn q os).2⟩

/-! ### num_PutVar: function 26 -/
def num_PutVar.l0 : Nat → List Int → Int → Option (List Int)
  | 0, _, _ => none
  | k + 1, x0, x1 => if x1 ≥ 128 then (if x0.length < 140737488355328 then (num_PutVar.l0 k (x0 ++ [Go.bits .or .u8 ((x1) % 256) 128]) (x1 / 128)) else (none)) else (if x0.length < 140737488355328 then (some (x0 ++ [(x1) % 256])) else (none))
def num_PutVar.f (k : Nat) (l0 : List Int) (a1 : Int) : Option (List Int) := num_PutVar.l0 k l0 a1
set_option maxHeartbeats 8000000 in
set_option maxRecDepth 100000 in
theorem num_PutVar.calls (k : Nat) (P0_ : Nat → Prop) (u9000_ : Value) (l0 : List Int) (a1 : Int) (r : List Int) (w0 w : World) (hB : Below w0.heap.size w0 w) (ho0 : Kd.R (Kd.int .u8) 5 w w0.heap.size P0_ u9000_ l0) (h : num_PutVar.f k l0 a1 = some r) :
    Calls Tryd.prog 26 #[u9000_, .int .u64 a1] w fun e w' => ∃ v0_ : Value, e = .returned (v0_) ∧ Kd.R (Kd.int .u8) 5 w' w0.heap.size (fun k_ => (P0_ k_ ∨ w.heap.size ≤ k_)) v0_ r ∧ Below w0.heap.size w0 w' ∧ Kept w w' (fun k_ => P0_ k_) := by
  have HO0 := Aside0.mk (show Kd.R (Kd.int .u8) 5 w w0.heap.size (fun k_ => (P0_ k_ ∨ w.heap.size ≤ k_)) u9000_ l0 from Kd.R_mono ho0 (fun k_ hk => (.inl hk)))
  have HK := Aside0.mk (Kept.refl w (fun k_ => P0_ k_))
  have HW0 := Aside0.mk hB.size
  have HB := Aside0.mk hB
  clear hB
  have H : (num_PutVar.l0 k l0 a1) = some r := h
  clear h
  have H' := Aside0.mk H
  clear H
  go_enter Tryd.func26, Tryd.ntmps26
  go_wp2
  go_loopg [0, 1] k (fun kq v0 v1 w' => ∃ (x0_1 : List Int) (x1_1 : Int), v1 = .int .u64 x1_1 ∧ Aside0 (num_PutVar.l0 kq x0_1 x1_1 = some r) ∧ Aside0 (kq ≤ k) ∧ Aside0 (Kd.R (Kd.int .u8) 5 w' w0.heap.size (fun k_ => (P0_ k_ ∨ w.heap.size ≤ k_)) v0 x0_1) ∧ Aside0 (Kept w w' (fun k_ => P0_ k_)) ∧ Aside0 (Below w0.heap.size w0 w'))
  case atStart => exact ⟨(l0), (a1), (by first | rfl | (simp; done) | (simp [*]; done)), H', ⟨Nat.le_refl _⟩, ⟨by (with_reducible repeat (first | apply Kd.R_alloc | apply Kd.R_drewN | apply Kd.R_drew)); exact HO0.out⟩, ⟨by repeat (first | (with_reducible first | exact HK.out | apply Kept.alloc | apply Kept.drewN | apply Kept.drew) | exact HK.out)⟩, ⟨by repeat (first | (with_reducible first | exact HB.out | apply below_alloc | apply pw_below_drewN | apply below_drew1) | exact HB.out)⟩⟩
  case round =>
    clear H'
    try clear c2
    try clear p2
    obtain ⟨x0_1, x1_1, rfl, HA, HK1, HO_0, HK, HB⟩ := hrel
    cases gk with
    | zero => exact absurd HA.out (by simp [num_PutVar.l0])
    | succ k1 =>
      have H := HA.out
      clear HA
      simp only [num_PutVar.l0] at H
      by_cases c3 : x1_1 ≥ 128
      · rw [if_pos c3] at H
        have c3b0 : decide (128 ≤ x1_1) = true := decide_eq_true c3
        clear c3
        by_cases c4 : x0_1.length < 140737488355328
        · rw [if_pos c4] at H
          have LMc4 := Aside0.mk c4
          clear c4
          obtain ⟨y102, hy102⟩ : ∃ y_ : List Int, y_ = (x0_1 ++ [Go.bits .or .u8 ((x1_1) % 256) 128]) := ⟨_, rfl⟩
          replace H : (num_PutVar.l0 k1 y102 (x1_1 / 128)) = some r := by first | (rw [hy102]; with_reducible exact H) | (have H2_ := (Option.bind_some _ _).symm.trans H; rw [hy102]; with_reducible exact H2_) | (have H2_ := (Option.bind_some _ _).symm.trans H; with_reducible exact H2_) | with_reducible exact H | (rw [hy102]; exact H) | exact H
          have Ny102 := Aside0.mk hy102
          clear hy102
          have H' := Aside0.mk H
          clear H
          go_wp2_with (first | ((with_reducible refine gate_builtin (b := .append) (xs := #[.tmp 9, .tmp 13]) rfl ?_); at_builtin; refine Kd.R_append (Kd.int .u8) (w0 := w0) w0.heap.size rfl (.tmp 9) (.tmp 13) 23 5 (.int .u8 0) 1 rfl Tryd.underlying23 info5 rfl (by decide) (by omega) u0 x0_1 (Go.bits .or .u8 ((x1_1) % 256) 128) [.int .u8 (Go.bits .or .u8 ((x1_1) % 256) 128)] (fun k_ => (P0_ k_ ∨ w.heap.size ≤ k_)) (fun _ => False) rfl rfl ?aP (fun _ hk => hk.elim) ?aF ?aO ?aB ?aS ?aL ?_; (case aP => exact rfl); (case aB => exact (by repeat (first | (with_reducible first | exact HB.out | apply below_alloc | apply pw_below_drewN | apply below_drew1) | exact HB.out))); (case aF => exact (fun k_ hk => (.inr (Nat.le_trans (by first | exact HK.out.1 | exact (show Kept w _ (fun k_ => P0_ k_) from by repeat (first | (with_reducible first | exact HK.out | apply Kept.alloc | apply Kept.drewN | apply Kept.drew) | exact HK.out)).1) hk)))); (case aO => exact (by (with_reducible repeat (first | apply Kd.R_alloc | apply Kd.R_drewN | apply Kd.R_drew)); exact HO_0.out)); (case aS => exact (below_size (by repeat (first | (with_reducible first | exact HB.out | apply below_alloc | apply pw_below_drewN | apply below_drew1) | exact HB.out)))); (case aL => have := LMc4.out; omega); intro v103 w5 ho hb hg hat; rw [← Ny102.out] at ho; have n0_ := Aside0.mk (hb); have n1_ := Aside0.mk (Kept.of_grown (S := (fun k_ => P0_ k_)) hg (by repeat (first | (with_reducible first | exact HK.out | apply Kept.alloc | apply Kept.drewN | apply Kept.drew) | exact HK.out)) (fun k_ e_ => (HO_0.out.1 k_ e_))); have n2_ := Aside0.mk (ho); clear HB; clear HK; clear HO_0; have HB := n0_; have HK := n1_; have HO104 := n2_; clear n0_ n1_ n2_; clear ho hb hg hat))
          go_roundg k1
          case measure => have := HK1.out; omega
          case rel => exact ⟨(y102), (x1_1 / 128), (by first | rfl | (simp; done) | (simp [*]; done)), H', ⟨by have := HK1.out; omega⟩, ⟨by (with_reducible repeat (first | apply Kd.R_alloc | apply Kd.R_drewN | apply Kd.R_drew)); exact HO104.out⟩, ⟨by repeat (first | (with_reducible first | exact HK.out | apply Kept.alloc | apply Kept.drewN | apply Kept.drew) | exact HK.out)⟩, ⟨by repeat (first | (with_reducible first | exact HB.out | apply below_alloc | apply pw_below_drewN | apply below_drew1) | exact HB.out)⟩⟩
        · rw [if_neg c4] at H
          exact absurd H (by simp)
      · rw [if_neg c3] at H
        have c3b0 : decide (128 ≤ x1_1) = false := decide_eq_false c3
        clear c3
        by_cases c6 : x0_1.length < 140737488355328
        · rw [if_pos c6] at H
          have LMc6 := Aside0.mk c6
          clear c6
          obtain ⟨y105, hy105⟩ : ∃ y_ : List Int, y_ = (x0_1 ++ [(x1_1) % 256]) := ⟨_, rfl⟩
          replace H : (some y105) = some r := by first | (rw [hy105]; with_reducible exact H) | (have H2_ := (Option.bind_some _ _).symm.trans H; rw [hy105]; with_reducible exact H2_) | (have H2_ := (Option.bind_some _ _).symm.trans H; with_reducible exact H2_) | with_reducible exact H | (rw [hy105]; exact H) | exact H
          have Ny105 := Aside0.mk hy105
          clear hy105
          obtain rfl := Option.some.inj H
          go_wp2_with (first | ((with_reducible refine gate_builtin (b := .append) (xs := #[.tmp 15, .tmp 18]) rfl ?_); at_builtin; refine Kd.R_append (Kd.int .u8) (w0 := w0) w0.heap.size rfl (.tmp 15) (.tmp 18) 23 5 (.int .u8 0) 1 rfl Tryd.underlying23 info5 rfl (by decide) (by omega) u0 x0_1 ((x1_1) % 256) [.int .u8 ((x1_1) % 256)] (fun k_ => (P0_ k_ ∨ w.heap.size ≤ k_)) (fun _ => False) rfl rfl ?aP (fun _ hk => hk.elim) ?aF ?aO ?aB ?aS ?aL ?_; (case aP => exact rfl); (case aB => exact (by repeat (first | (with_reducible first | exact HB.out | apply below_alloc | apply pw_below_drewN | apply below_drew1) | exact HB.out))); (case aF => exact (fun k_ hk => (.inr (Nat.le_trans (by first | exact HK.out.1 | exact (show Kept w _ (fun k_ => P0_ k_) from by repeat (first | (with_reducible first | exact HK.out | apply Kept.alloc | apply Kept.drewN | apply Kept.drew) | exact HK.out)).1) hk)))); (case aO => exact (by (with_reducible repeat (first | apply Kd.R_alloc | apply Kd.R_drewN | apply Kd.R_drew)); exact HO_0.out)); (case aS => exact (below_size (by repeat (first | (with_reducible first | exact HB.out | apply below_alloc | apply pw_below_drewN | apply below_drew1) | exact HB.out)))); (case aL => have := LMc6.out; omega); intro v106 w7 ho hb hg hat; rw [← Ny105.out] at ho; have n0_ := Aside0.mk (hb); have n1_ := Aside0.mk (Kept.of_grown (S := (fun k_ => P0_ k_)) hg (by repeat (first | (with_reducible first | exact HK.out | apply Kept.alloc | apply Kept.drewN | apply Kept.drew) | exact HK.out)) (fun k_ e_ => (HO_0.out.1 k_ e_))); have n2_ := Aside0.mk (ho); clear HB; clear HK; clear HO_0; have HB := n0_; have HK := n1_; have HO107 := n2_; clear n0_ n1_ n2_; clear ho hb hg hat))
          go_ret
          exact ⟨_, by first | rfl | (simp [errW_none, errW_some] <;> rfl) | (simp [*, errW_none, errW_some] <;> rfl), by (with_reducible repeat (first | apply Kd.R_alloc | apply Kd.R_drewN | apply Kd.R_drew)); exact HO107.out, by repeat (first | (with_reducible first | exact HB.out | apply below_alloc | apply pw_below_drewN | apply below_drew1) | exact HB.out), by repeat (first | (with_reducible first | exact HK.out | apply Kept.alloc | apply Kept.drewN | apply Kept.drew) | exact HK.out)⟩
        · rw [if_neg c6] at H
          exact absurd H (by simp)

/-! ### num_PutBlob: function 27 -/
def num_PutBlob.f (k : Nat) (l0 : List Int) (l1 : List Int) : Option (List Int) := (num_PutVar.f k l0 (IntKind.u64.wrap ((l1.length : Int)))).bind fun t108 => (if t108.length + l1.length < 140737488355328 then (some (t108 ++ l1)) else (none))
set_option maxHeartbeats 8000000 in
set_option maxRecDepth 100000 in
theorem num_PutBlob.calls (k : Nat) (P0_ : Nat → Prop) (u9000_ : Value) (l0 : List Int) (A1 : Option Addr) (c1 : Nat) (l1 : List Int) (r : List Int) (w0 w : World) (hB : Below w0.heap.size w0 w) (ho0 : Kd.R (Kd.int .u8) 5 w w0.heap.size P0_ u9000_ l0) (hr1 : ∀ W_, Kept w W_ (fun k_ => P0_ k_) → Kd.C (Kd.int .u8) W_ A1 l1.length l1) (hc1 : l1.length ≤ c1) (h : num_PutBlob.f k l0 l1 = some r) :
    Calls Tryd.prog 27 #[u9000_, .slice A1 l1.length c1] w fun e w' => ∃ v0_ : Value, e = .returned (v0_) ∧ Kd.R (Kd.int .u8) 5 w' w0.heap.size (fun k_ => (P0_ k_ ∨ w.heap.size ≤ k_)) v0_ r ∧ Below w0.heap.size w0 w' ∧ Kept w w' (fun k_ => P0_ k_) := by
  have HO0 := Aside0.mk (show Kd.R (Kd.int .u8) 5 w w0.heap.size (fun k_ => (P0_ k_ ∨ w.heap.size ≤ k_)) u9000_ l0 from Kd.R_mono ho0 (fun k_ hk => (.inl hk)))
  have HR1 := Aside0.mk hr1
  have HC1 := Aside0.mk hc1
  clear hr1 hc1
  have HK := Aside0.mk (Kept.refl w (fun k_ => P0_ k_))
  have HW0 := Aside0.mk hB.size
  have HB := Aside0.mk hB
  clear hB
  have H : ((num_PutVar.f k l0 (IntKind.u64.wrap ((l1.length : Int)))).bind fun t108 => (if t108.length + l1.length < 140737488355328 then (some (t108 ++ l1)) else (none))) = some r := h
  clear h
  replace H := Option.bind_eq_some_iff.mp H
  obtain ⟨t108, A30, H⟩ := H
  replace H : (if t108.length + l1.length < 140737488355328 then (some (t108 ++ l1)) else (none)) = some r := H
  have A3 := Aside0.mk A30
  clear A30
  by_cases c4 : t108.length + l1.length < 140737488355328
  · rw [if_pos c4] at H
    have LMc4 := Aside0.mk c4
    clear c4
    obtain ⟨y111, hy111⟩ : ∃ y_ : List Int, y_ = (t108 ++ l1) := ⟨_, rfl⟩
    replace H : (some y111) = some r := by first | (rw [hy111]; with_reducible exact H) | (have H2_ := (Option.bind_some _ _).symm.trans H; rw [hy111]; with_reducible exact H2_) | (have H2_ := (Option.bind_some _ _).symm.trans H; with_reducible exact H2_) | with_reducible exact H | (rw [hy111]; exact H) | exact H
    have Ny111 := Aside0.mk hy111
    clear hy111
    obtain rfl := Option.some.inj H
    obtain ⟨Ao5, co5, eo5⟩ := Kd.R_slice HO0.out
    subst eo5
    go_enter Tryd.func27, Tryd.ntmps27
    go_wp2_with (first | ((with_reducible refine gate_callee (f := 26) rfl ?_); refine goesL_ (some 9) rfl rfl Tryd.func26 (by kernel_rfl) rfl #[.slice Ao5 l0.length co5, .int .u64 (IntKind.u64.wrap ((l1.length : Int)))] rfl (by (try simp only [List.map_toArray, List.map_cons, List.map_nil]); first | done | rfl | (simp only [List.length_drop, List.length_take]; rfl)) ?_; (with_reducible refine (num_PutVar.calls k (fun k_ => some k_ = (.slice Ao5 l0.length co5 : Value).ownBlock) (.slice Ao5 l0.length co5) l0 (IntKind.u64.wrap ((l1.length : Int))) t108 w0 _ ?side1 ?side2 A3.out).mono ?_); (case side1 => repeat (first | (with_reducible first | exact HB.out | apply below_alloc | apply pw_below_drewN | apply below_drew1) | exact HB.out)); (case side2 => exact Kd.R_tight rfl HO0.out); rintro e w6 ⟨v109, rfl, ho0, hb, hkp⟩; refine ⟨_, rfl, ?_⟩; have n0_ := Aside0.mk (Kd.R_mono (ok' := fun k_ => (P0_ k_ ∨ w.heap.size ≤ k_)) ho0 (fun k_ hk_ => Or.elim hk_ (fun hs_ => (HO0.out.1 k_ (hs_).symm)) (fun hn_ => (.inr (Nat.le_trans (by first | exact HK.out.1 | exact (show Kept w _ (fun k_ => P0_ k_) from by repeat (first | (with_reducible first | exact HK.out | apply Kept.alloc | apply Kept.drewN | apply Kept.drew) | exact HK.out)).1) hn_))))); have n1_ := Aside0.mk (Kept.then_ (S := (fun k_ => P0_ k_)) (by repeat (first | (with_reducible first | exact HK.out | apply Kept.alloc | apply Kept.drewN | apply Kept.drew) | exact HK.out)) hkp (fun k_ hs_ => (fun e_ => (HO0.out.1 k_ e_.symm)) hs_)); have n2_ := Aside0.mk (hb); clear HK; clear HB; clear HO0; have HO110 := n0_; have HK := n1_; have HB := n2_; clear n0_ n1_ n2_; (try clear hb); (try clear hkp); (try clear ho0)) | ((with_reducible refine gate_builtin (b := .append) (xs := #[.tmp 9, .tmp 10]) rfl ?_); at_builtin; refine Kd.R_append_rows (Kd.int .u8) (w0 := w0) w0.heap.size rfl (.tmp 9) (.tmp 10) 23 5 (.int .u8 0) 1 rfl Tryd.underlying23 info5 rfl (by decide) (by omega) v109 t108 l1 _ _ _ (fun k_ => (P0_ k_ ∨ w.heap.size ≤ k_)) (fun _ => False) rfl rfl ?aO ?aR (fun _ _ h => h) (fun _ h => h.elim) ?aF ?aB ?aS ?aL ?_; (case aR => exact Kd.C_kept_now HR1.out (by repeat (first | (with_reducible first | exact HK.out | apply Kept.alloc | apply Kept.drewN | apply Kept.drew) | exact HK.out))); (case aB => exact (by repeat (first | (with_reducible first | exact HB.out | apply below_alloc | apply pw_below_drewN | apply below_drew1) | exact HB.out))); (case aF => exact (fun k_ hk => (.inr (Nat.le_trans (by first | exact HK.out.1 | exact (show Kept w _ (fun k_ => P0_ k_) from by repeat (first | (with_reducible first | exact HK.out | apply Kept.alloc | apply Kept.drewN | apply Kept.drew) | exact HK.out)).1) hk)))); (case aO => exact (by (with_reducible repeat (first | apply Kd.R_alloc | apply Kd.R_drewN | apply Kd.R_drew)); exact HO110.out)); (case aS => exact (below_size (by repeat (first | (with_reducible first | exact HB.out | apply below_alloc | apply pw_below_drewN | apply below_drew1) | exact HB.out)))); (case aL => have := LMc4.out; omega); intro v112 w7 ho hb hg hat; rw [← Ny111.out] at ho; have n0_ := Aside0.mk (hb); have n1_ := Aside0.mk (Kept.of_grown (S := (fun k_ => P0_ k_)) hg (by repeat (first | (with_reducible first | exact HK.out | apply Kept.alloc | apply Kept.drewN | apply Kept.drew) | exact HK.out)) (fun k_ e_ => (HO110.out.1 k_ e_))); have n2_ := Aside0.mk (ho); clear HB; clear HK; clear HO110; have HB := n0_; have HK := n1_; have HO113 := n2_; clear n0_ n1_ n2_; clear ho hb hg hat))
    go_ret
    exact ⟨_, by first | rfl | (simp [errW_none, errW_some] <;> rfl) | (simp [*, errW_none, errW_some] <;> rfl), by (with_reducible repeat (first | apply Kd.R_alloc | apply Kd.R_drewN | apply Kd.R_drew)); exact HO113.out, by repeat (first | (with_reducible first | exact HB.out | apply below_alloc | apply pw_below_drewN | apply below_drew1) | exact HB.out), by repeat (first | (with_reducible first | exact HK.out | apply Kept.alloc | apply Kept.drewN | apply Kept.drew) | exact HK.out)⟩
  · rw [if_neg c4] at H
    exact absurd H (by simp)

/-- The bytes of a string, as numbers. -/
def num_PutBlobS.bs (s : ByteArray) : List Int := s.data.toList.map fun b => (b.toNat : Int)
def num_PutBlobS.f (k : Nat) (l0 : List Int) (s : ByteArray) : Option (List Int) := num_PutBlob.f k l0 (num_PutBlobS.bs s)
theorem num_PutBlobS.bs_length (s : ByteArray) : (num_PutBlobS.bs s).length = s.size := by unfold num_PutBlobS.bs; rw [List.length_map, Array.length_toList]; rfl
theorem num_PutBlobS.below (w : World) (e : TypeId) (s : ByteArray) : Below w.heap.size w (Go.Lib.bytesWorld w e s) :=
  ⟨rfl, rfl, rfl, by rw [Go.Lib.bytesWorld_size]; omega, fun j hj => Go.Lib.bytesWorld_at_old w e s j hj⟩
theorem num_PutBlobS.reads (w w1 : World) (e : TypeId) (s : ByteArray) (hs : s.size ≤ 9223372036854775807) (h : w1.heap[w.heap.size]? = (Go.Lib.bytesWorld w e s).heap[w.heap.size]?) : (Kd.int .u8).C w1 (some ⟨w.heap.size, 0, none⟩) (num_PutBlobS.bs s).length (num_PutBlobS.bs s) := by
  rw [num_PutBlobS.bs_length]
  refine ⟨num_PutBlobS.bs_length s, hs, fun hn => ⟨_, rfl, fun j p hj => ⟨[.int .u8 p], rfl, rfl, fun i u hu => ?_⟩⟩⟩
  have hj' : j < s.size := by have := (List.getElem?_eq_some_iff.1 hj).1; rw [num_PutBlobS.bs_length] at this; exact this
  have hc := Go.Lib.bytesWorld_cell w e s j hj'
  have hp : p = ((s.data.toList.getD j 0).toNat : Int) := by
    have hj2 : j < s.data.toList.length := by rw [Array.length_toList]; exact hj'
    simp only [num_PutBlobS.bs, List.getElem?_map, List.getElem?_eq_getElem hj2, Option.map_some, Option.some.injEq] at hj
    rw [List.getD_eq_getElem?_getD, List.getElem?_eq_getElem hj2]; exact hj.symm
  rcases i with _ | i
  · simp at hu
    subst hu
    have ha : (⟨w.heap.size, 0, none⟩ : Addr).add (j * 1 + 0) = ⟨w.heap.size, j, none⟩ := by unfold Addr.add; split <;> simp_all
    show w1.cell? ((⟨w.heap.size, 0, none⟩ : Addr).add (j * 1 + 0)) = _
    rw [ha, hp, ← hc]
    simp only [World.cell?, h]
  · simp at hu
theorem num_PutBlobS.wp {w0 W : World} {ops : Array Oper} {rest : List Oper} {o1 o2 : Oper} {a : Act} {Q : Exit → Act → World → Prop} {x b : Operand} {t : Tmp} (k : Nat) (P0_ : Nat → Prop) (u9000_ : Value) (l0 : List Int) (s : ByteArray) (r : List Int)
    (hg1 : o1.guard = none) (hop1 : o1.op = .convert 9 23 x) (hd1 : o1.dst = some t) (hg2 : o2.guard = none) (hop2 : o2.op = .call { callee := .value (.func 27), args := #[b, .tmp t], argTypes := #[23, 23] })
    (hx : a.eval x = .string s) (hb : ∀ v, (a.put (some t) v).eval b = u9000_ ∧ (a.put (some t) v).eval (.tmp t) = v) (hP : P0_ = fun k_ => some k_ = u9000_.ownBlock) (hB : Below w0.heap.size w0 W) (ho0 : Kd.R (Kd.int .u8) 5 W w0.heap.size P0_ u9000_ l0) (h : num_PutBlobS.f k l0 s = some r)
    (hK : ∀ (v1 : Value) (e : Ending) (w' : World), (∃ v0_ : Value, e = .returned v0_ ∧ Kd.R (Kd.int .u8) 5 w' w0.heap.size (fun k_ => (P0_ k_ ∨ W.heap.size ≤ k_)) v0_ r ∧ Below w0.heap.size w0 w' ∧ Kept W w' (fun k_ => P0_ k_)) → ∃ v : Value, e = .returned v ∧ wpList Tryd.prog ops Q rest ((a.put o1.dst v1).put o2.dst v) w') :
    wpList Tryd.prog ops Q (o1 :: o2 :: rest) a W := by
  have hs : s.size ≤ 9223372036854775807 := by
    by_cases hc : s.size ≤ 9223372036854775807
    · exact hc
    · exfalso
      unfold num_PutBlobS.f num_PutBlob.f at h
      obtain ⟨t1, _, h⟩ := Option.bind_eq_some_iff.mp h
      by_cases c : t1.length + (num_PutBlobS.bs s).length < 140737488355328
      · rw [num_PutBlobS.bs_length] at c; omega
      · rw [if_neg c] at h; cases h
  have hrun := Go.Lib.run_convert_string_bytes (P := Tryd.prog) W 9 23 5 s (u := .string) (by kernel_rfl) (by kernel_rfl) (by kernel_rfl)
  have hbel := num_PutBlobS.below W 5 s
  refine wpList_plain hg1 fun K' hK' => ?_
  unfold Oper.wp
  simp [execOp, hop1, hx, hrun, Result.andThen]
  refine hK' _ _ ?_
  have hlt : ∀ k_, P0_ k_ → k_ < W.heap.size := fun k_ hk => by
    rw [hP] at hk
    exact ((Kd.R_bound ho0).1 k_ hk.symm).2.2.1
  have hcap := grownCap_ge W s.size 0 5
  obtain ⟨hb1, hb2⟩ := hb (.slice (some ⟨W.heap.size, 0, none⟩) s.size (grownCap W s.size 0 5))
  have hcall := num_PutBlob.calls k P0_ u9000_ l0 (some ⟨W.heap.size, 0, none⟩) (grownCap W s.size 0 5) (num_PutBlobS.bs s) r w0 (Go.Lib.bytesWorld W 5 s) (below_weaken hB hB.size hbel) (Kd.R_below ho0 hbel)
    (fun W_ hk => num_PutBlobS.reads W W_ 5 s hs (hk.2 _ (by rw [Go.Lib.bytesWorld_size]; omega) (fun hp => by have := hlt _ hp; omega))) (by rw [num_PutBlobS.bs_length]; exact hcap) h
  rw [num_PutBlobS.bs_length] at hcall
  refine goesL_ o2.dst rfl hg2 Tryd.func27 (by kernel_rfl) rfl #[u9000_, .slice (some ⟨W.heap.size, 0, none⟩) s.size (grownCap W s.size 0 5)] hop2 (by simp only [hd1, List.map_toArray, List.map_cons, List.map_nil, hb1, hb2]) (hcall.mono ?_)
  rintro e w' ⟨v0, he, hR, hBw, hkp⟩
  exact hK _ e w' ⟨v0, he, Kd.R_mono hR (fun k_ hk => hk.imp_right fun hk => Nat.le_trans (by rw [Go.Lib.bytesWorld_size]; omega) hk), hBw, (Kept.of_below hbel _).then_ hkp (fun _ hk => .inl hk)⟩

/-! ### cmp_isNaN_string: function 92 -/
def cmp_isNaN_string.f (a0 : ByteArray) : Option (Bool) := some (a0.toList != a0.toList)
set_option maxHeartbeats 8000000 in
set_option maxRecDepth 100000 in
theorem cmp_isNaN_string.calls (a0 : ByteArray) (r : Bool) (w : World) (h : cmp_isNaN_string.f a0 = some r) :
    Calls Tryd.prog 92 #[.string a0] w fun e w' => e = .returned (.bool r) ∧ Drawn0 w w' := by
  have H : (some (a0.toList != a0.toList)) = some r := h
  clear h
  obtain rfl := Option.some.inj H
  go_enter Tryd.func92, Tryd.ntmps92
  go_wp2
  go_ret
  exact ⟨by first | rfl | (simp; done) | (simp [*]; done), by repeat (first | exact Drawn0.refl _ | apply Drawn0.step)⟩

/-! ### cmp_Less_string: function 64 -/
def cmp_Less_string.f (a0 : ByteArray) (a1 : ByteArray) : Option (Bool) := (cmp_isNaN_string.f a0).bind fun t114 => (if t114 = true then ((cmp_isNaN_string.f a1).bind fun t115 => (if t115 = true then (some (Op.bytesLess a0.toList a1.toList)) else (some true))) else (some (Op.bytesLess a0.toList a1.toList)))
set_option maxHeartbeats 8000000 in
set_option maxRecDepth 100000 in
theorem cmp_Less_string.calls (a0 : ByteArray) (a1 : ByteArray) (r : Bool) (w : World) (h : cmp_Less_string.f a0 a1 = some r) :
    Calls Tryd.prog 64 #[.string a0, .string a1] w fun e w' => e = .returned (.bool r) ∧ Drawn0 w w' := by
  have H : ((cmp_isNaN_string.f a0).bind fun t114 => (if t114 = true then ((cmp_isNaN_string.f a1).bind fun t115 => (if t115 = true then (some (Op.bytesLess a0.toList a1.toList)) else (some true))) else (some (Op.bytesLess a0.toList a1.toList)))) = some r := h
  clear h
  replace H := Option.bind_eq_some_iff.mp H
  obtain ⟨t114, A30, H⟩ := H
  replace H : (if t114 = true then ((cmp_isNaN_string.f a1).bind fun t115 => (if t115 = true then (some (Op.bytesLess a0.toList a1.toList)) else (some true))) else (some (Op.bytesLess a0.toList a1.toList))) = some r := H
  have A3 := Aside0.mk A30
  clear A30
  by_cases c4 : t114 = true
  · subst c4
    have H1 : ((cmp_isNaN_string.f a1).bind fun t115 => (if t115 = true then (some (Op.bytesLess a0.toList a1.toList)) else (some true))) = some r := by rw [if_pos rfl] at H; exact H
    clear H
    have H := H1
    clear H1
    replace H := Option.bind_eq_some_iff.mp H
    obtain ⟨t115, A50, H⟩ := H
    replace H : (if t115 = true then (some (Op.bytesLess a0.toList a1.toList)) else (some true)) = some r := H
    have A5 := Aside0.mk A50
    clear A50
    by_cases c6 : t115 = true
    · subst c6
      have H1 : (some (Op.bytesLess a0.toList a1.toList)) = some r := by rw [if_pos rfl] at H; exact H
      clear H
      have H := H1
      clear H1
      obtain rfl := Option.some.inj H
      go_enter Tryd.func64, Tryd.ntmps64
      go_wp2_with (first | ((with_reducible refine gate_callee (f := 92) rfl ?_); refine goesL_ (some 6) rfl rfl Tryd.func92 (by kernel_rfl) rfl #[.string a0] rfl (by (try simp only [List.map_toArray, List.map_cons, List.map_nil]); first | done | rfl | (simp only [List.length_drop, List.length_take]; rfl)) ?_; (with_reducible refine (cmp_isNaN_string.calls a0 true _ A3.out).mono ?_); rintro e w' ⟨rfl, ⟨nd, rfl⟩⟩; refine ⟨_, rfl, ?_⟩) | (go_at_call 92; (with_reducible refine (cmp_isNaN_string.calls a1 true _ A5.out).mono ?_); rintro e w' ⟨rfl, ⟨nd, rfl⟩⟩))
      go_ret
      exact ⟨by first | rfl | (simp; done) | (simp [*]; done), by repeat (first | exact Drawn0.refl _ | apply Drawn0.step)⟩
    · replace c6 := Bool.eq_false_iff.mpr c6
      subst c6
      have H1 : (some true) = some r := by rw [if_neg (show ¬ (false = true) by decide)] at H; exact H
      clear H
      have H := H1
      clear H1
      obtain rfl := Option.some.inj H
      go_enter Tryd.func64, Tryd.ntmps64
      go_wp2_with (first | ((with_reducible refine gate_callee (f := 92) rfl ?_); refine goesL_ (some 6) rfl rfl Tryd.func92 (by kernel_rfl) rfl #[.string a0] rfl (by (try simp only [List.map_toArray, List.map_cons, List.map_nil]); first | done | rfl | (simp only [List.length_drop, List.length_take]; rfl)) ?_; (with_reducible refine (cmp_isNaN_string.calls a0 true _ A3.out).mono ?_); rintro e w' ⟨rfl, ⟨nd, rfl⟩⟩; refine ⟨_, rfl, ?_⟩) | (go_at_call 92; (with_reducible refine (cmp_isNaN_string.calls a1 false _ A5.out).mono ?_); rintro e w' ⟨rfl, ⟨nd, rfl⟩⟩))
      go_ret
      exact ⟨by first | rfl | (simp; done) | (simp [*]; done), by repeat (first | exact Drawn0.refl _ | apply Drawn0.step)⟩
  · replace c4 := Bool.eq_false_iff.mpr c4
    subst c4
    have H1 : (some (Op.bytesLess a0.toList a1.toList)) = some r := by rw [if_neg (show ¬ (false = true) by decide)] at H; exact H
    clear H
    have H := H1
    clear H1
    obtain rfl := Option.some.inj H
    go_enter Tryd.func64, Tryd.ntmps64
    go_wp2_with (first | ((with_reducible refine gate_callee (f := 92) rfl ?_); refine goesL_ (some 6) rfl rfl Tryd.func92 (by kernel_rfl) rfl #[.string a0] rfl (by (try simp only [List.map_toArray, List.map_cons, List.map_nil]); first | done | rfl | (simp only [List.length_drop, List.length_take]; rfl)) ?_; (with_reducible refine (cmp_isNaN_string.calls a0 false _ A3.out).mono ?_); rintro e w' ⟨rfl, ⟨nd, rfl⟩⟩; refine ⟨_, rfl, ?_⟩))
    go_ret
    exact ⟨by first | rfl | (simp; done) | (simp [*]; done), by repeat (first | exact Drawn0.refl _ | apply Drawn0.step)⟩

/-! ### slices_isNaN_string: function 65 -/
def slices_isNaN_string.f (a0 : ByteArray) : Option (Bool) := some (a0.toList != a0.toList)
set_option maxHeartbeats 8000000 in
set_option maxRecDepth 100000 in
theorem slices_isNaN_string.calls (a0 : ByteArray) (r : Bool) (w : World) (h : slices_isNaN_string.f a0 = some r) :
    Calls Tryd.prog 65 #[.string a0] w fun e w' => e = .returned (.bool r) ∧ Drawn0 w w' := by
  have H : (some (a0.toList != a0.toList)) = some r := h
  clear h
  obtain rfl := Option.some.inj H
  go_enter Tryd.func65, Tryd.ntmps65
  go_wp2
  go_ret
  exact ⟨by first | rfl | (simp; done) | (simp [*]; done), by repeat (first | exact Drawn0.refl _ | apply Drawn0.step)⟩

end Go.Proofs.YtbkocklahdlgkaaDoor.PTextsBack
