/- WRITTEN BY A PROGRAM of this session (wip/tool: a turned copy of the printer), out of the translation: Lean functions with the answers of the Go functions, and the proofs that the Go code comes to them. -/
import Derived.Test.YtehbkhddbdgbcaaGreatDoorPChunkBackx1
import Derived.Test.YtehbkhddbdgbcaaGreatDoorPChunkBackx2
import Derived.Test.YtehbkhddbdgbcaaGreatDoorPChunkBackx6
import Derived.Test.YtehbkhddbdgbcaaGreatDoorPChunkBackx8
namespace Go.Proofs.YtehbkhddbdgbcaaGreatDoor.PChunkBack
open Go.RowKit Go.Proofs.YtehbkhddbdgbcaaGreatDoorW.PrintWords Go.Proofs.YtehbkhddbdgbcaaGreatDoorW.PrintLast Go.Proofs.YtehbkhddbdgbcaaGreatDoorW.PrintMore
attribute [local go_sem] max2_int min2_int max_two min_two max_three min_three max_four min_four   -- for this text's walks alone
set_option linter.unusedVariables false
set_option linter.unusedSimpArgs false

/-- A map's pairs, the newest first, as the datum that the map reads as. -/
def mpD : List (Int × Int) → DataW Unit
 | [] => .map []
 | p :: s => (mpD s).put (.int .i64 p.1) (.lit (.int .u64 p.2))
def mpGet : List (Int × Int) → Int → Int
 | [], _ => 0
 | p :: s, k => if p.1 = k then p.2 else mpGet s k
def mp_new.f : Option (List (Int × Int)) := some []
def mp_put.f (s : List (Int × Int)) (k v : Int) : Option (List (Int × Int)) := if (Lit.int .i64 k).wf = true ∧ (Lit.int .u64 v).wf = true ∧ s.length < 140737488355328 then some ((k, v) :: s) else none
def mp_get.f (s : List (Int × Int)) (k : Int) : Option (Int × List (Int × Int)) := if (Lit.int .i64 k).wf = true then some (mpGet s k, s) else none
theorem mpD_isMap : ∀ s, Go.Maps.IsMap (mpD s)
 | [] => Go.Maps.isMap_empty
 | _ :: s => (mpD_isMap s).put _ _
theorem mpD_at : ∀ (s : List (Int × Int)) (k : Int), (mpD s).atKey (.int .i64 k) (.lit (.int .u64 0)) = .lit (.int .u64 (mpGet s k))
 | [], k => rfl
 | p :: s, k => by
  show ((mpD s).put _ _).atKey _ _ = _; unfold mpGet
  by_cases h : p.1 = k
  ·rw [if_pos h, h, Go.Maps.atKey_put_same (mpD_isMap s) (by simp [WideAt.IsKeyLit])]
  ·rw [if_neg h, Go.Maps.atKey_put_other (by rintro e; exact h (by injection e with _ e; exact e.symm)), mpD_at s k]
theorem mp_under : Tryz.prog.underlying 119 = some (.map 2 75) := by kernel_rfl
theorem mp_underK : Tryz.prog.underlying 2 = some (.int .i64) := by kernel_rfl
theorem mp_underE : Tryz.prog.underlying 75 = some (.int .u64) := by kernel_rfl
/-- A map at block g of W. -/
def IsS119 (w0 W : World) (g : Nat) (f0 : List (Int × Int)) : Prop := W.ownsMap Tryz.prog 2 (plainElem Tryz.prog 75) g f0.length (mpD f0) ∧ w0.heap.size ≤ g
section
variable {w0 W : World} {g : Nat} {f0 : List (Int × Int)}
theorem IsS119.lt (h : IsS119 w0 W g f0) : g < W.heap.size := h.1.lt
theorem IsS119.ge (h : IsS119 w0 W g f0) : w0.heap.size ≤ g := h.2
theorem IsS119.grown {W1 : World} {row : Option Nat} (h : IsS119 w0 W g f0) (hw : W.grownBy W1 row) (hne : some g ≠ row) : IsS119 w0 W1 g f0 := ⟨h.1.kept hw hne, h.2⟩
theorem IsS119.step {W1 : World} (h : IsS119 w0 W g f0) (hk : W1.heap[g]? = W.heap[g]?) : IsS119 w0 W1 g f0 := by
 obtain ⟨⟨es, clock, hb, r⟩, hg⟩ := h; exact ⟨⟨es, clock, hk.trans hb, r⟩, hg⟩
theorem IsS119.kept {W1 : World} {S : Nat → Prop} (h : IsS119 w0 W g f0) (hk : Kept W W1 S) (hne : ¬ S g) : IsS119 w0 W1 g f0 := h.step (hk.2 g h.lt hne)
theorem IsS119.below {W1 : World} (h : IsS119 w0 W g f0) (hw : Below W.heap.size W W1) : IsS119 w0 W1 g f0 := h.step (hw.block g h.lt)
theorem IsS119.alloc (h : IsS119 w0 W g f0) (o : Obj) : IsS119 w0 (W.alloc o) g f0 := h.below (below_alloc (Below.refl _ _) o)
theorem IsS119.drewN (h : IsS119 w0 W g f0) (m : Nat) : IsS119 w0 (W.drewN m) g f0 := h.below (pw_below_drewN (Below.refl _ _) m)
theorem IsS119.drew (h : IsS119 w0 W g f0) : IsS119 w0 W.drew g f0 := h.below (below_drew1 (Below.refl _ _))
theorem IsS119.at_ {w' : World} {m : Nat} (hq : W.drewN m = w') (h : IsS119 w0 W g f0) : IsS119 w0 w' g f0 := by subst hq; exact IsS119.drewN h m
variable {α : Type} {d : Kd α} {e : Nat} {base : Nat} {ok : Nat → Prop} {v : Value} {xs : List α}
theorem IsS119.own_ne (h : IsS119 w0 W g f0) (ho : Kd.R d e W base ok v xs) (_ : e ≠ 119) : some g ≠ v.ownBlock := by
 intro hv; obtain ⟨inner, hw⟩ := Kd.R_own ho; obtain ⟨cs, hc⟩ := own_typed hw g hv.symm; obtain ⟨⟨es, clock, hb, r⟩, hg⟩ := h; rw [hb] at hc
 cases hc
theorem IsS119.apart (h : IsS119 w0 W g f0) (ho : Kd.R d e W base ok v xs) (_ : ∀ q, q ∈ e :: d.E → q ≠ 119) : Kd.R d e W base (fun k => ok k ∧ k ≠ g) v xs := by
 obtain ⟨⟨es, clock, hb, r⟩, hg⟩ := h; refine Kd.R_mono (Kd.R_bound ho) (fun k hk => ⟨hk.1, ?_⟩); rintro rfl; obtain ⟨_, _, _, q, _, cells, hc⟩ := hk; rw [hb] at hc
 cases hc
variable {P : Program} {ops : Array Oper} {rest : List Oper} {o : Oper} {a : Act} {Q : Exit → Act → World → Prop}
theorem mp_new.wp (hg : o.guard = none) (hop : o.op = Op.makeMap 119 none) (r : List (Int × Int)) (hB : Below w0.heap.size w0 W) (hr : mp_new.f = some r)
  (h : ∀ (e : Ending) (w' : World), (∃ g_ : Nat, e = .returned (.map (some g_)) ∧ IsS119 w0 w' g_ r ∧ Below w0.heap.size w0 w' ∧ Below W.heap.size W w') → ∃ v : Value, e = .returned v ∧ wpList Tryz.prog ops Q rest (a.put o.dst v) w') : wpList Tryz.prog ops Q (o :: rest) a W := by
 obtain rfl := Option.some.inj hr
 refine wpList_plain hg fun K' hK' => ?_
 have hrun := run_makeMap (P := Tryz.prog) 119 W; obtain ⟨v, hv, hw⟩ := h (.returned (.map (some W.heap.size))) (W.alloc (.map #[] 0)) ⟨_, rfl, ⟨World.ownsMap_made _ _ _ _, hB.size⟩, below_alloc hB _, below_alloc (Below.refl _ _) _⟩
 cases hv
 unfold Oper.wp; simp [execOp, hop, hrun, Result.andThen]; exact hK' _ _ hw
theorem mp_put.wp (hg : o.guard = none) (m x y : Operand) (hop : o.op = Op.mapUpdate 119 m x y) (g : Nat) (s : List (Int × Int)) (k u : Int) (r : List (Int × Int)) (hm : a.eval m = .map (some g)) (hx : a.eval x = .int .i64 k) (hy : a.eval y = .int .u64 u) (hI : IsS119 w0 W g s) (hB : Below w0.heap.size w0 W) (hr : mp_put.f s k u = some r)
  (h : ∀ (e : Ending) (w' : World), (e = .returned (.tuple #[]) ∧ IsS119 w0 w' g r ∧ Below w0.heap.size w0 w' ∧ KeepBut W w' g none) → ∃ v : Value, e = .returned v ∧ wpList Tryz.prog ops Q rest (a.put o.dst undef) w') : wpList Tryz.prog ops Q (o :: rest) a W := by
 unfold mp_put.f at hr
 by_cases hc : (Lit.int .i64 k).wf = true ∧ (Lit.int .u64 u).wf = true ∧ s.length < 140737488355328
 ·rw [if_pos hc] at hr; obtain rfl := Option.some.inj hr; refine wpList_mapUpdate_own W hg m x y 119 hop 2 75 (Go.Maps.int_keyed mp_underK) mp_under _ g s.length (mpD s) hm hI.1 (by unfold maxLen; omega) _ _ (.int .i64 k) hx hy (Go.Maps.keyOf_int_mk mp_underK hc.1) (.lit (.int .u64 u)) [] (plainElem_int mp_underE hc.2.1) (fun w' h1 h2 => ?_); obtain ⟨v, hv, hw⟩ := h (.returned (.tuple #[])) w' ⟨rfl, ⟨h1, hI.2⟩, hB.grown h2 hB.size (fun j hj => by cases hj; exact hI.2), ⟨h2.size, fun k hk hne _ => h2.block k hk (by simpa using hne)⟩⟩; exact hw
 ·rw [if_neg hc] at hr; cases hr
theorem mp_get.wp (hg : o.guard = none) (m x : Operand) (hop : o.op = Op.lookup 119 m x false) (g : Nat) (s : List (Int × Int)) (k r1 : Int) (r2 : List (Int × Int)) (hm : a.eval m = .map (some g)) (hx : a.eval x = .int .i64 k) (hI : IsS119 w0 W g s) (hB : Below w0.heap.size w0 W) (hr : mp_get.f s k = some (r1, r2))
  (h : ∀ (e : Ending) (w' : World), (e = .returned (.int .u64 r1) ∧ IsS119 w0 w' g r2 ∧ Below w0.heap.size w0 w' ∧ KeepBut W w' g none) → ∃ v : Value, e = .returned v ∧ wpList Tryz.prog ops Q rest (a.put o.dst v) w') : wpList Tryz.prog ops Q (o :: rest) a W := by
 unfold mp_get.f at hr
 by_cases hc : (Lit.int .i64 k).wf = true
 ·rw [if_pos hc] at hr; simp only [Option.some.injEq, Prod.mk.injEq] at hr; obtain ⟨rfl, rfl⟩ := hr; refine wpList_lookup_own_int W hg m x 119 hop 2 75 .u64 (Go.Maps.int_keyed mp_underK) mp_under mp_underE (by kernel_rfl) g s.length (mpD s) hm hI.1 _ (.int .i64 k) hx (Go.Maps.keyOf_int_mk mp_underK hc) (fun c hat _ => ?_); rw [mpD_at] at hat; injection hat with hat; injection hat with _ hat; subst hat; obtain ⟨v, hv, hw⟩ := h _ W ⟨rfl, hI, hB, KeepBut.refl _ _ _⟩
  cases hv
  exact hw
 ·rw [if_neg hc] at hr; cases hr
end


theorem IU119 {w0 w w' g x0 y0} (h : IsS119 w0 w g x0) (s : IsS119 w0 w g x0 → IsS119 w0 w' g y0 := by intro h_; (repeat (first | (with_reducible first | exact h_ | apply IsS119.alloc | apply IsS119.drewN | apply IsS119.drew | apply IsS119.set_0) | exact h_)); done) : IsS119 w0 w' g y0 := s h
theorem BV119 {w0 w3 g x0 n w w1 w2} (i : IsS119 w0 w3 g x0) (h : Below n w w1) (s : IsS119 w0 w3 g x0 → Below n w w1 → Below n w w2 := by intro i_ h_; (repeat (first | (with_reducible first | exact h_ | apply below_alloc | apply pw_below_drewN | apply below_drew1 | refine below_set ?_ (IsS119.ge i_)) | exact h_)); done) : Below n w w2 := s i h
theorem KR119 {α : Type} {d : Kd α} {e base ok v xs} {w0 w1 w2 W W2 g x0 y0} (hk : KeepBut W W2 g none) (hI : Aside0 (IsS119 w0 w1 g x0)) (hR : Aside0 (Kd.R d e w2 base ok v xs)) (hd : ∀ q, q ∈ e :: d.E → q ≠ 119 := by decide) (s1 : IsS119 w0 w1 g x0 → IsS119 w0 W g y0 := by intro h_; (repeat (first | (with_reducible first | exact h_ | apply IsS119.alloc | apply IsS119.drewN | apply IsS119.drew | apply IsS119.set_0) | exact h_)); done) (s2 : Kd.R d e w2 base ok v xs → Kd.R d e W base ok v xs := by intro h_; (with_reducible repeat (first | apply Kd.R_alloc | apply Kd.R_drewN | apply Kd.R_drew)); exact h_) : Aside0 (Kd.R d e W2 base ok v xs) := ⟨Kd.R_mono (Kd.R_keep (IsS119.apart (s1 hI.out) (s2 hR.out) hd) hk (fun _ h => h.2)) (fun _ h => h.1)⟩
/-! ### dict_Put: function 49 -/
mutual
def dict_Put.l0 : Nat → List Int → List Int → List Int → List Int → Int → Int → List (Int × Int) → Option (List Int × Int)
 | 0, _, _, _, _, _, _, _ => none
 | k + 1, x0, x4, x6, x25, x26, x27, x303000 => if x27 < x26 then (if 0 ≤ x27 then (if x27 < (x25.length : Int) then ((mp_put.f x303000 (rd x25 x27) (IntKind.u64.wrap (x27))).bind fun t307 => (if x27 = 0 then ((num_Zig.f (rd x25 x27)).bind fun t308 => ((num_PutVar.f k x6 t308).bind fun t309 => (dict_Put.l0 k x0 x4 t309 x25 x26 (wrap64 (x27 + 1)) t307))) else (if 0 ≤ (wrap64 (x27 - 1)) then (if (wrap64 (x27 - 1)) < (x4.length : Int) then ((num_PutVar.f k x6 (IntKind.u64.wrap ((IntKind.u64.wrap (wrap64 ((rd x25 x27) - (rd x4 (wrap64 (x27 - 1)))))) - 1))).bind fun t313 => (dict_Put.l0 k x0 x4 t313 x25 x26 (wrap64 (x27 + 1)) t307)) else (none)) else (none)))) else (none)) else (none)) else (dict_Put.l1 k x4 x6 ([] : List Int) x0 (x0.length : Int) 0 x303000)
def dict_Put.l1 : Nat → List Int → List Int → List Int → List Int → Int → Int → List (Int × Int) → Option (List Int × Int)
 | 0, _, _, _, _, _, _, _ => none
 | k + 1, x4, x6, x9, x54, x55, x56, x303000 => if x56 < x55 then (if 0 ≤ x56 then (if x56 < (x54.length : Int) then ((mp_get.f x303000 (rd x54 x56)).bind fun bt317 => (if x9.length < 17592186044416 then (dict_Put.l1 k x4 x6 (x9 ++ [bt317.1]) x54 x55 (wrap64 (x56 + 1)) bt317.2) else (none))) else (none)) else (none)) else ((dict_width.f (x4.length : Int)).bind fun t322 => ((bits_Pack.f k x9 t322).bind fun bt323 => (if x6.length < 140737488355328 then ((some (x6 ++ [(t322) % 256] : List Int)).bind fun y327 => (if y327.length + bt323.1.length < 140737488355328 then (some ((y327 ++ bt323.1), bt323.2)) else (none))) else (none))))
end
def dict_Put.f (k : Nat) (l0 : List Int) : Option (List Int × Int) := if (l0.length : Int) > 65536 then (some (([] : List Int), 12)) else ((dict_List.f l0).bind fun t298 => ((mp_new.f).bind fun t301 => ((num_PutVar.f k ([] : List Int) (IntKind.u64.wrap ((t298.length : Int)))).bind fun t303 => (dict_Put.l0 k l0 t298 t303 t298 (t298.length : Int) 0 t301))))
set_option maxHeartbeats 8000000 in
set_option maxRecDepth 100000 in
theorem dict_Put.calls (k : Nat) (A0 : Option Addr) (c0 : Nat) (l0 : List Int) (r1 : List Int) (r2 : Int) (w : World) (hr0 : Kd.C (Kd.int .i64) w A0 l0.length l0) (hc0 : l0.length ≤ c0) (h : dict_Put.f k l0 = some (r1, r2)) :
  Calls Tryz.prog 49 #[.slice A0 l0.length c0] w fun e w' => ∃ v0_ : Value, e = .returned (.tuple #[v0_, .int .i64 r2]) ∧ Kd.R (Kd.int .u8) 5 w' w.heap.size (fun _ => True) v0_ r1 ∧ Below w.heap.size w w' := by
 have HR0 := Aside0.mk hr0; have HC0 := Aside0.mk hc0; clear hr0 hc0; have HB := Aside0.mk (Below.refl w.heap.size w); have H : (if (l0.length : Int) > 65536 then (some (([] : List Int), 12)) else ((dict_List.f l0).bind fun t298 => ((mp_new.f).bind fun t301 => ((num_PutVar.f k ([] : List Int) (IntKind.u64.wrap ((t298.length : Int)))).bind fun t303 => (dict_Put.l0 k l0 t298 t303 t298 (t298.length : Int) 0 t301))))) = some (r1, r2) := h; clear h
 by_cases c2 : (l0.length : Int) > 65536
 ·rw [if_pos c2] at H; have c2b0 : decide (65536 < (l0.length : Int)) = true := decide_eq_true c2; have c2b1 : decide (65536 < l0.length) = true := decide_eq_true (by omega); clear c2; simp only [Option.some.injEq, Prod.mk.injEq] at H; obtain ⟨rfl, rfl⟩ := H; go_enter Tryz.func49, Tryz.ntmps49; go_wp2
  go_ret2
  exact ⟨_, ER, by first | exact Kd.R_nil _ _ _ _ _ | exact Kd.N_nil _ _ _ _ _ | exact Kd.V_nil _ _ _ _ _ | exact Kd.Q_nil _ _ _ _ _ | exact Kd.S_nil _ _ _ _ _, BU HB.out⟩
 ·rw [if_neg c2] at H; have c2b0 : decide (65536 < (l0.length : Int)) = false := decide_eq_false c2; have c2b1 : decide (65536 < l0.length) = false := decide_eq_false (by omega); clear c2; replace H := Option.bind_eq_some_iff.mp H; obtain ⟨t298, A30, H⟩ := H; (try dsimp only at H); have A3 := Aside0.mk A30; clear A30; replace H := Option.bind_eq_some_iff.mp H; obtain ⟨t301, A40, H⟩ := H; (try dsimp only at H); have A4 := Aside0.mk A40; clear A40; replace H := Option.bind_eq_some_iff.mp H; obtain ⟨t303, A50, H⟩ := H; (try dsimp only at H); have A5 := Aside0.mk A50; clear A50; have H' := Aside0.mk H; clear H; go_enter Tryz.func49, Tryz.ntmps49
  go_wp2_with (first | (go_at_call 79; (with_reducible refine (dict_List.calls _ _ l0 t298 _ ?side1 ?side2 A3.out).mono ?_); (case side1 => exact CU HR0.out); (case side2 => exact HC0.out); rintro e w6 ⟨v299, rfl, ho0, hb⟩; have HO300 := Aside0.mk (Kd.R_lower ho0 (below_size (BU HB.out))); replace HB := Aside0.mk (below_step (BU HB.out) hb); clear hb ho0) | (refine mp_new.wp (w0 := w) rfl rfl  t301  ?side1 A4.out ?_; (case side1 => exact BU HB.out); rintro e w7 ⟨g302, rfl, hi, hb, hb2⟩; refine ⟨_, rfl, ?_⟩; replace HO300 := Aside0.mk (Kd.R_below (RU HO300.out) hb2); replace HB := Aside0.mk hb; have HI302 := Aside0.mk hi; clear hb hb2 hi; obtain ⟨Ao8, co8, eo8⟩ := Kd.R_slice HO300.out; subst eo8) | (go_at_call 59; (refine (num_PutVar.calls k (fun k_ => some k_ = (.slice none 0 0 : Value).ownBlock) (.slice none 0 0) ([] : List Int) (IntKind.u64.wrap ((t298.length : Int))) t303 w _ ?side1 ?side2 A5.out).mono ?_); (case side1 => exact BV119 HI302.out HB.out); (case side2 => exact Kd.R_nil _ _ _ _ _); rintro e w9 ⟨v304, rfl, ho0, hb, hkp⟩; replace HO300 := Aside0.mk (Kd.R_mono (ok' := fun k_ => True) (Kd.R_keptB (HO300.out) hkp (fun k_ hk_ hs_ => (fun e_ => by simp [Value.ownBlock] at e_) hs_)) (fun k_ hk_ => trivial)); replace HI302 := Aside0.mk (IsS119.kept (IU119 HI302.out) hkp (fun hs_ => (fun e_ => by simp [Value.ownBlock] at e_) hs_)); have HO305 := Aside0.mk (Kd.R_mono (ok' := fun k_ => True) ho0 (fun k_ hk_ => trivial)); replace HB := Aside0.mk hb; (try clear hb); (try clear hkp); (try clear ho0)))
  go_loopg [6, 27] k (fun kq v6 v27 w' => ∃ (x6_1 : List Int) (x27_1 : Int) (x303000_1 : List (Int × Int)), v27 = .int .i64 x27_1 ∧ Aside0 (dict_Put.l0 kq l0 t298 x6_1 t298 (t298.length : Int) x27_1 x303000_1 = some (r1, r2)) ∧ Aside0 (kq ≤ k) ∧ Aside0 (Kd.R (Kd.int .i64) 2 w' w.heap.size (fun _ => True) (.slice Ao8 t298.length co8) t298) ∧ Aside0 (Kd.R (Kd.int .u8) 5 w' w.heap.size (fun _ => True) v6 x6_1) ∧ Aside0 (Kd.R (Kd.int .i64) 2 w' w.heap.size (fun _ => True) (.slice Ao8 t298.length co8) t298) ∧ Aside0 (IsS119 w w' g302 x303000_1) ∧ Aside0 (Below w.heap.size w w'))
  case atStart => exact ⟨(t303), (0), (t301), EB, H', ⟨Nat.le_refl _⟩, ⟨RU HO300.out⟩, ⟨RU HO305.out⟩, ⟨RU HO300.out⟩, ⟨IU119 HI302.out⟩, ⟨BV119 HI302.out HB.out⟩⟩
  case round =>
   clear H'; (try clear c2); (try clear c2b0); (try clear c2b1); (try clear p2); (try clear c4); (try clear c5); (try clear c7); obtain ⟨x6_1, x27_1, x303000_1, rfl, HA, HK1, HO_4, HO_6, HO_25, HI302, HB⟩ := hrel
   cases gk with
   | zero => exact absurd HA.out (by simp [dict_Put.l0])
   | succ k1 =>
    have H := HA.out; clear HA; simp only [dict_Put.l0] at H
    by_cases c10 : x27_1 < (t298.length : Int)
    ·rw [if_pos c10] at H; have c10b0 := decide_eq_true c10; clear c10
     by_cases c11 : 0 ≤ x27_1
     ·rw [if_pos c11] at H; have c11b0 := decide_eq_true c11; clear c11
      by_cases c12 : x27_1 < (t298.length : Int)
      ·rw [if_pos c12] at H; have c12b0 := decide_eq_true c12; clear c12; replace H := Option.bind_eq_some_iff.mp H; obtain ⟨t307, A130, H⟩ := H; (try dsimp only at H); have A13 := Aside0.mk A130; clear A130
       by_cases c14 : x27_1 = 0
       ·rw [if_pos c14] at H; have c14b0 : (x27_1 == 0) = true := beq_iff_eq.mpr c14; have c14b1 : (x27_1 != 0) = false := bne_eq_false_iff_eq.mpr c14; clear c14; replace H := Option.bind_eq_some_iff.mp H; obtain ⟨t308, A150, H⟩ := H; (try dsimp only at H); have A15 := Aside0.mk A150; clear A150; replace H := Option.bind_eq_some_iff.mp H; obtain ⟨t309, A160, H⟩ := H; (try dsimp only at H); have A16 := Aside0.mk A160; clear A160; have H' := Aside0.mk H; clear H; have p306 : 0 ≤ (x27_1 : Int) := OD; have q306 : x27_1 < (t298.length : Int) := OD; obtain ⟨ad306, e306, hx306_0⟩ := Kd.at_int (Kd.R_reads' HO_25.out).2.2 x27_1 p306 q306
        cases e306
        replace p306 := eq_true p306; replace q306 := eq_true q306
        go_wp2_with (first | (at_mapUpdate; refine mp_put.wp (w0 := w) rfl (.tmp 32) (.tmp 33) (.tmp 35) rfl g302 x303000_1 (rd t298 x27_1) (IntKind.u64.wrap (x27_1)) t307 rfl rfl rfl  ?side1 ?side2 A13.out ?_; (case side1 => exact IU119 HI302.out); (case side2 => exact BV119 HI302.out HB.out); rintro e w17 ⟨rfl, hi, hb, hk⟩; refine ⟨_, rfl, ?_⟩; replace HO_4 := KR119 hk HI302 HO_4; replace HO_6 := KR119 hk HI302 HO_6; replace HO_25 := KR119 hk HI302 HO_25; replace HB := Aside0.mk hb; replace HI302 := Aside0.mk hi; clear hb hk hi) | (go_at_call 70; (with_reducible refine (num_Zig.calls (rd t298 x27_1) t308 _ A15.out).mono ?_); rintro e w' ⟨rfl, ⟨nd, rfl⟩⟩; obtain ⟨Ao18, co18, eo18⟩ := Kd.R_slice HO_6.out; subst eo18) | (go_at_call 59; (with_reducible refine (num_PutVar.calls k1 (fun k_ => some k_ = (.slice Ao18 x6_1.length co18 : Value).ownBlock) (.slice Ao18 x6_1.length co18) x6_1 t308 t309 w _ ?side1 ?side2 A16.out).mono ?_); (case side1 => exact BV119 HI302.out HB.out); (case side2 => exact Kd.R_tight rfl HO_6.out); rintro e w19 ⟨v310, rfl, ho0, hb, hkp⟩; replace HO_4 := Aside0.mk (Kd.R_mono (ok' := fun k_ => True) (Kd.R_keptB ((Kd.R_apart' HO_4.out (Kd.R_typed HO_6.out) (by decide))) hkp (fun k_ hk_ hs_ => (hk_.2) hs_)) (fun k_ hk_ => trivial)); replace HO_25 := Aside0.mk (Kd.R_mono (ok' := fun k_ => True) (Kd.R_keptB ((Kd.R_apart' HO_25.out (Kd.R_typed HO_6.out) (by decide))) hkp (fun k_ hk_ hs_ => (hk_.2) hs_)) (fun k_ hk_ => trivial)); replace HI302 := Aside0.mk (IsS119.kept (IU119 HI302.out) hkp (fun hs_ => (fun e_ => (IsS119.own_ne HI302.out HO_6.out (by decide)) e_) hs_)); have HO311 := Aside0.mk (Kd.R_mono (ok' := fun k_ => True) ho0 (fun k_ hk_ => trivial)); replace HB := Aside0.mk hb; clear HO_6; (try clear hb); (try clear hkp); (try clear ho0)))
        go_roundg k1
        case measure => have := HK1.out; omega
        case rel => exact ⟨(t309), (wrap64 (x27_1 + 1)), (t307), EB, H', ⟨by have := HK1.out; omega⟩, ⟨RU HO_4.out⟩, ⟨RU HO311.out⟩, ⟨RU HO_25.out⟩, ⟨IU119 HI302.out⟩, ⟨BV119 HI302.out HB.out⟩⟩
       ·rw [if_neg c14] at H; have c14b0 : (x27_1 == 0) = false := beq_eq_false_iff_ne.mpr c14; have c14b1 : (x27_1 != 0) = true := bne_iff_ne.mpr c14
        obtain ⟨ji20, hji20⟩ : ∃ j_ : Int, (wrap64 (x27_1 - 1)) = j_ := ⟨_, rfl⟩
        replace H : (if 0 ≤ (ji20) then (if (ji20) < (t298.length : Int) then ((num_PutVar.f k1 x6_1 (IntKind.u64.wrap ((IntKind.u64.wrap (wrap64 ((rd t298 x27_1) - (rd t298 (ji20))))) - 1))).bind fun t313 => (dict_Put.l0 k1 l0 t298 t313 t298 (t298.length : Int) (wrap64 (x27_1 + 1)) t307)) else (none)) else (none)) = some (r1, r2) := by first | (rw [hji20] at H; exact H) | (simp only [hji20] at H ⊢; exact H)
        (try rw [hji20] at A13)
        have hji20w : (IntKind.i64.wrap (x27_1 - 1)) = ji20 := (i64_w _).trans hji20
        by_cases c21 : 0 ≤ (ji20)
        ·rw [if_pos c21] at H; have c21b0 := decide_eq_true c21; clear c21
         by_cases c22 : (ji20) < (t298.length : Int)
         ·rw [if_pos c22] at H; have c22b0 := decide_eq_true c22; clear c22; replace H := Option.bind_eq_some_iff.mp H; obtain ⟨t313, A230, H⟩ := H; (try dsimp only at H); have A23 := Aside0.mk A230; clear A230; have H' := Aside0.mk H; clear H; have p306 : 0 ≤ (x27_1 : Int) := OD; have q306 : x27_1 < (t298.length : Int) := OD; obtain ⟨ad306, e306, hx306_0⟩ := Kd.at_int (Kd.R_reads' HO_25.out).2.2 x27_1 p306 q306
          cases e306
          replace p306 := eq_true p306; replace q306 := eq_true q306
          go_wp2_with (first | (at_mapUpdate; refine mp_put.wp (w0 := w) rfl (.tmp 32) (.tmp 33) (.tmp 35) rfl g302 x303000_1 (rd t298 x27_1) (IntKind.u64.wrap (x27_1)) t307 rfl rfl rfl  ?side1 ?side2 A13.out ?_; (case side1 => exact IU119 HI302.out); (case side2 => exact BV119 HI302.out HB.out); rintro e w24 ⟨rfl, hi, hb, hk⟩; refine ⟨_, rfl, ?_⟩; replace HO_4 := KR119 hk HI302 HO_4; replace HO_6 := KR119 hk HI302 HO_6; replace HO_25 := KR119 hk HI302 HO_25; replace HB := Aside0.mk hb; replace HI302 := Aside0.mk hi; clear hb hk hi; have p312 : 0 ≤ ((ji20) : Int) := OD; have q312 : (ji20) < (t298.length : Int) := OD; obtain ⟨ad312, e312, hx312_0⟩ := Kd.at_int (Kd.R_reads' HO_4.out).2.2 (ji20) p312 q312; obtain rfl : ad306 = ad312 := (by injection e312); replace p312 := eq_true p312; replace q312 := eq_true q312; obtain ⟨Ao25, co25, eo25⟩ := Kd.R_slice HO_6.out; subst eo25) | ((with_reducible refine gate_callee (f := 59) rfl ?_); refine goesL_ (some 52) rfl rfl Tryz.func59 (by kernel_rfl) rfl #[.slice Ao25 x6_1.length co25, .int .u64 (IntKind.u64.wrap ((IntKind.u64.wrap (wrap64 ((rd t298 x27_1) - (rd t298 (ji20))))) - 1))] rfl (by (try simp only [List.map_toArray, List.map_cons, List.map_nil]); first | done | (simp only [hji20]; rfl) | rfl | (simp only [List.length_drop, List.length_take]; rfl)) ?_; (with_reducible refine (num_PutVar.calls k1 (fun k_ => some k_ = (.slice Ao25 x6_1.length co25 : Value).ownBlock) (.slice Ao25 x6_1.length co25) x6_1 (IntKind.u64.wrap ((IntKind.u64.wrap (wrap64 ((rd t298 x27_1) - (rd t298 (ji20))))) - 1)) t313 w _ ?side1 ?side2 A23.out).mono ?_); (case side1 => exact BV119 HI302.out HB.out); (case side2 => exact Kd.R_tight rfl HO_6.out); rintro e w26 ⟨v314, rfl, ho0, hb, hkp⟩; refine ⟨_, rfl, ?_⟩; replace HO_4 := Aside0.mk (Kd.R_mono (ok' := fun k_ => True) (Kd.R_keptB ((Kd.R_apart' HO_4.out (Kd.R_typed HO_6.out) (by decide))) hkp (fun k_ hk_ hs_ => (hk_.2) hs_)) (fun k_ hk_ => trivial)); replace HO_25 := Aside0.mk (Kd.R_mono (ok' := fun k_ => True) (Kd.R_keptB ((Kd.R_apart' HO_25.out (Kd.R_typed HO_6.out) (by decide))) hkp (fun k_ hk_ hs_ => (hk_.2) hs_)) (fun k_ hk_ => trivial)); replace HI302 := Aside0.mk (IsS119.kept (IU119 HI302.out) hkp (fun hs_ => (fun e_ => (IsS119.own_ne HI302.out HO_6.out (by decide)) e_) hs_)); have HO315 := Aside0.mk (Kd.R_mono (ok' := fun k_ => True) ho0 (fun k_ hk_ => trivial)); replace HB := Aside0.mk hb; clear HO_6; (try clear hb); (try clear hkp); (try clear ho0)))
          go_roundg k1
          case measure => have := HK1.out; omega
          case rel => exact ⟨(t313), (wrap64 (x27_1 + 1)), (t307), EB, H', ⟨by have := HK1.out; omega⟩, ⟨RU HO_4.out⟩, ⟨RU HO315.out⟩, ⟨RU HO_25.out⟩, ⟨IU119 HI302.out⟩, ⟨BV119 HI302.out HB.out⟩⟩
         ·rw [if_neg c22] at H; exact absurd H (by simp)
        ·rw [if_neg c21] at H; exact absurd H (by simp)
      ·rw [if_neg c12] at H; exact absurd H (by simp)
     ·rw [if_neg c11] at H; exact absurd H (by simp)
    ·rw [if_neg c10] at H; have c10b0 := decide_eq_false c10; clear c10; have H' := Aside0.mk H; clear H; go_wp2
     go_loopg [9, 56] k1 (fun kq v9 v56 w' => ∃ (x9_2 : List Int) (x56_2 : Int) (x303000_2 : List (Int × Int)), v56 = .int .i64 x56_2 ∧ Aside0 (dict_Put.l1 kq t298 x6_1 x9_2 l0 (l0.length : Int) x56_2 x303000_2 = some (r1, r2)) ∧ Aside0 (kq ≤ k1) ∧ Aside0 (Kd.R (Kd.int .i64) 2 w' w.heap.size (fun _ => True) (.slice Ao8 t298.length co8) t298) ∧ Aside0 (Kd.R (Kd.int .u8) 5 w' w.heap.size (fun _ => True) u6 x6_1) ∧ Aside0 (Kd.R (Kd.int .u64) 75 w' w.heap.size (fun _ => True) v9 x9_2) ∧ Aside0 (IsS119 w w' g302 x303000_2) ∧ Aside0 (Below w.heap.size w w'))
     case atStart => exact ⟨(([] : List Int)), (0), (x303000_1), EB, H', ⟨Nat.le_refl _⟩, ⟨RU HO_4.out⟩, ⟨RU HO_6.out⟩, ⟨by first | exact Kd.R_nil _ _ _ _ _ | exact Kd.N_nil _ _ _ _ _ | exact Kd.V_nil _ _ _ _ _ | exact Kd.Q_nil _ _ _ _ _ | exact Kd.S_nil _ _ _ _ _⟩, ⟨IU119 HI302.out⟩, ⟨BV119 HI302.out HB.out⟩⟩
     case round =>
      clear H'; (try clear c1); (try clear c2); (try clear c2b0); (try clear c2b1); (try clear p2); (try clear p3); (try clear q3); (try clear hx3); (try clear c4); (try clear c5); (try clear p6); (try clear c7); (try clear c10); (try clear c10b0); (try clear c11); (try clear c11b0); (try clear c12); (try clear c12b0); (try clear c14); (try clear c14b0); (try clear c14b1); (try clear c21); (try clear c21b0); (try clear c22); (try clear c22b0); (try clear hx306_0); (try clear hx312_0); (try clear p2); (try clear p306); (try clear p312); (try clear q306); (try clear q312); obtain ⟨x9_2, x56_2, x303000_2, rfl, HA, HK2, HO_4, HO_6, HO_9, HI302, HB⟩ := hrel
      cases gk with
      | zero => exact absurd HA.out (by simp [dict_Put.l1])
      | succ k2 =>
       have H := HA.out; clear HA; simp only [dict_Put.l1] at H
       by_cases c27 : x56_2 < (l0.length : Int)
       ·rw [if_pos c27] at H; have c27b0 := decide_eq_true c27; clear c27
        by_cases c28 : 0 ≤ x56_2
        ·rw [if_pos c28] at H; have c28b0 := decide_eq_true c28; clear c28
         by_cases c29 : x56_2 < (l0.length : Int)
         ·rw [if_pos c29] at H; have c29b0 := decide_eq_true c29; clear c29; replace H := Option.bind_eq_some_iff.mp H; obtain ⟨⟨t317, t318⟩, A300, H⟩ := H; (try dsimp only at H); have A30 := Aside0.mk A300; clear A300
          by_cases c31 : x9_2.length < 17592186044416
          ·rw [if_pos c31] at H; have LMc31 := Aside0.mk c31; clear c31
           obtain ⟨y319, hy319⟩ : ∃ y_ : List Int, y_ = (x9_2 ++ [t317]) := ⟨_, rfl⟩
           replace H : (dict_Put.l1 k2 t298 x6_1 y319 l0 (l0.length : Int) (wrap64 (x56_2 + 1)) t318) = some (r1, r2) := HY hy319 H; have Ny319 := Aside0.mk hy319; clear hy319; have H' := Aside0.mk H; clear H; have p316 : 0 ≤ (x56_2 : Int) := OD; have q316 : x56_2 < (l0.length : Int) := OD; obtain ⟨ad316, e316, hx316_0⟩ := Kd.at_int HR0.out x56_2 p316 q316
           cases e316
           replace hx316_0 := (HB.out.cell (World.block_lt_of_cell? w _ hx316_0)).trans hx316_0; replace p316 := eq_true p316; replace q316 := eq_true q316
           go_wp2_with (first | (at_lookup; refine mp_get.wp (w0 := w) rfl (.tmp 61) (.tmp 62) rfl g302 x303000_2 (rd l0 x56_2) t317 t318 rfl rfl  ?side1 ?side2 A30.out ?_; (case side1 => exact IU119 HI302.out); (case side2 => exact BV119 HI302.out HB.out); rintro e w32 ⟨rfl, hi, hb, hk⟩; refine ⟨_, rfl, ?_⟩; replace HO_4 := KR119 hk HI302 HO_4; replace HO_6 := KR119 hk HI302 HO_6; replace HO_9 := KR119 hk HI302 HO_9; replace HB := Aside0.mk hb; replace HI302 := Aside0.mk hi; clear hb hk hi) | ((with_reducible refine gate_builtin (b := .append) (xs := #[.tmp 60, .tmp 64]) rfl ?_); at_builtin; refine Kd.R_append (Kd.int .u64) (w0 := w) w.heap.size rfl (.tmp 60) (.tmp 64) 83 75 (.int .u64 0) 8 rfl Tryz.underlying83 info75 rfl (by decide) (by omega) u9 x9_2 t317 [.int .u64 t317] (fun _ => True) (fun _ => False) rfl rfl ?aP (fun _ hk => hk.elim) ?aF ?aO ?aB ?aS ?aL ?_; (case aP => exact rfl); (case aB => exact (BV119 HI302.out HB.out)); (case aF => exact (fun _ _ => trivial)); (case aO => exact (RU HO_9.out)); (case aS => exact (below_size (BV119 HI302.out HB.out))); (case aL => have := LMc31.out; omega); intro v320 w33 ho hb hg hat; rw [← Ny319.out] at ho; replace HO_4 := Aside0.mk (Kd.R_over' (RU HO_4.out) (Kd.R_typed (RU HO_9.out)) (by decide) hg); replace HO_6 := Aside0.mk (Kd.R_over' (RU HO_6.out) (Kd.R_typed (RU HO_9.out)) (by decide) hg); replace HI302 := Aside0.mk (IsS119.grown (IU119 HI302.out) hg (IsS119.own_ne HI302.out HO_9.out (by decide))); replace HB := Aside0.mk hb; have HO321 := Aside0.mk ho; clear HO_9; clear ho hb hg hat))
           go_roundg k2
           case measure => have := HK1.out; have := HK2.out; omega
           case rel => exact ⟨(y319), (wrap64 (x56_2 + 1)), (t318), EB, H', ⟨by have := HK1.out; have := HK2.out; omega⟩, ⟨RU HO_4.out⟩, ⟨RU HO_6.out⟩, ⟨RU HO321.out⟩, ⟨IU119 HI302.out⟩, ⟨BV119 HI302.out HB.out⟩⟩
          ·rw [if_neg c31] at H; exact absurd H (by simp)
         ·rw [if_neg c29] at H; exact absurd H (by simp)
        ·rw [if_neg c28] at H; exact absurd H (by simp)
       ·rw [if_neg c27] at H; have c27b0 := decide_eq_false c27; clear c27; replace H := Option.bind_eq_some_iff.mp H; obtain ⟨t322, A340, H⟩ := H; (try dsimp only at H); have A34 := Aside0.mk A340; clear A340; replace H := Option.bind_eq_some_iff.mp H; obtain ⟨⟨t323, t324⟩, A350, H⟩ := H; (try dsimp only at H); have A35 := Aside0.mk A350; clear A350
        by_cases c36 : x6_1.length < 140737488355328
        ·rw [if_pos c36] at H; have LMc36 := Aside0.mk c36; clear c36
         obtain ⟨y327, hy327⟩ : ∃ y_ : List Int, y_ = (x6_1 ++ [(t322) % 256]) := ⟨_, rfl⟩
         replace H : (if y327.length + t323.length < 140737488355328 then (some ((y327 ++ t323), t324)) else (none)) = some (r1, r2) := HY hy327 H; have Ny327 := Aside0.mk hy327; clear hy327
         by_cases c37 : y327.length + t323.length < 140737488355328
         ·rw [if_pos c37] at H; have LMc37 := Aside0.mk c37; clear c37
          obtain ⟨y330, hy330⟩ : ∃ y_ : List Int, y_ = (y327 ++ t323) := ⟨_, rfl⟩
          replace H : (some (y330, t324)) = some (r1, r2) := HY hy330 H; have Ny330 := Aside0.mk hy330; clear hy330; simp only [Option.some.injEq, Prod.mk.injEq] at H; obtain ⟨rfl, rfl⟩ := H
          go_wp2_with (first | (go_at_call 80; (with_reducible refine (dict_width.calls (t298.length : Int) t322 _ A34.out).mono ?_); rintro e w38 ⟨rfl, hb⟩; replace HO_4 := Aside0.mk (Kd.R_below (RU HO_4.out) hb); replace HO_6 := Aside0.mk (Kd.R_below (RU HO_6.out) hb); replace HO_9 := Aside0.mk (Kd.R_below (RU HO_9.out) hb); replace HB := Aside0.mk (below_step (BV119 HI302.out HB.out) hb); replace HI302 := Aside0.mk (IsS119.below (IU119 HI302.out) hb); clear hb; obtain ⟨Ao39, co39, eo39⟩ := Kd.R_slice HO_9.out; subst eo39) | (go_at_call 62; (with_reducible refine (bits_Pack.calls k2 _ _ x9_2 t322 t323 t324 _ ?side1 ?side2 A35.out).mono ?_); (case side1 => exact CU ((Kd.R_reads' HO_9.out).2.2)); (case side2 => exact (Kd.R_reads' HO_9.out).2.1); rintro e w40 ⟨v325, rfl, ho0, hb⟩; replace HO_4 := Aside0.mk (Kd.R_below (RU HO_4.out) hb); replace HO_9 := Aside0.mk (Kd.R_below (RU HO_9.out) hb); have HO326 := Aside0.mk (Kd.R_lower (Kd.R_new' ho0 (Kd.R_lt (RU HO_6.out))) (below_size (BV119 HI302.out HB.out))); replace HO_6 := Aside0.mk (Kd.R_elder' (RU HO_6.out) (Kd.R_base ho0) hb); replace HB := Aside0.mk (below_step (BV119 HI302.out HB.out) hb); replace HI302 := Aside0.mk (IsS119.below (IU119 HI302.out) hb); clear hb ho0) | ((with_reducible refine gate_builtin (b := .append) (xs := #[.tmp 76, .tmp 79]) rfl ?_); at_builtin; refine Kd.R_append (Kd.int .u8) (w0 := w) w.heap.size rfl (.tmp 76) (.tmp 79) 25 5 (.int .u8 0) 1 rfl Tryz.underlying25 info5 rfl (by decide) (by omega) u6 x6_1 ((t322) % 256) [.int .u8 ((t322) % 256)] (fun k_ => some k_ ≠ (v325 : Value).ownBlock) (fun _ => False) rfl rfl ?aP (fun _ hk => hk.elim) ?aF ?aO ?aB ?aS ?aL ?_; (case aP => exact rfl); (case aB => exact (BV119 HI302.out HB.out)); (case aF => exact (fun k_ hk => Kd.fresh' (Kd.R_lt (RU HO326.out)) k_ hk)); (case aO => exact (RU (Kd.R_mono HO_6.out (fun _ hk => hk.2)))); (case aS => exact (below_size (BV119 HI302.out HB.out))); (case aL => have := LMc36.out; omega); intro v328 w41 ho hb hg hat; rw [← Ny327.out] at ho; replace HO_4 := Aside0.mk (Kd.R_over' (RU HO_4.out) (Kd.R_typed (RU HO_6.out)) (by decide) hg); replace HO_9 := Aside0.mk (Kd.R_over' (RU HO_9.out) (Kd.R_typed (RU HO_6.out)) (by decide) hg); replace HI302 := Aside0.mk (IsS119.grown (IU119 HI302.out) hg (IsS119.own_ne HI302.out HO_6.out (by decide))); replace HO326 := Aside0.mk (Kd.R_after (ok := (fun _ => True)) (RU HO326.out) hg hat); replace HB := Aside0.mk hb; have HO329 := Aside0.mk ho; clear HO_6; clear ho hb hg hat; obtain ⟨Ao43, co43, eo43⟩ := Kd.R_slice HO326.out; subst eo43) | ((with_reducible refine gate_builtin (b := .append) (xs := #[.tmp 80, .tmp 81]) rfl ?_); at_builtin; refine Kd.R_append_rows (Kd.int .u8) (w0 := w) w.heap.size rfl (.tmp 80) (.tmp 81) 25 5 (.int .u8 0) 1 rfl Tryz.underlying25 info5 rfl (by decide) (by omega) v328 y327 t323 _ _ _ (fun k_ => some k_ ≠ (.slice Ao43 t323.length co43 : Value).ownBlock) (fun _ => False) rfl rfl ?aO ?aR (fun _ _ h => h) (fun _ h => h.elim) ?aF ?aB ?aS ?aL ?_; (case aR => exact CU ((Kd.R_reads' HO326.out).2.2)); (case aB => exact (BV119 HI302.out HB.out)); (case aF => exact (fun k_ hk => Kd.fresh' (Kd.R_lt (RU HO326.out)) k_ hk)); (case aO => exact (RU HO329.out)); (case aS => exact (below_size (BV119 HI302.out HB.out))); (case aL => have := LMc37.out; omega); intro v331 w42 ho hb hg hat; rw [← Ny330.out] at ho; replace HO_4 := Aside0.mk (Kd.R_over' (RU HO_4.out) (Kd.R_typed (RU HO329.out)) (by decide) hg); replace HO_9 := Aside0.mk (Kd.R_over' (RU HO_9.out) (Kd.R_typed (RU HO329.out)) (by decide) hg); replace HI302 := Aside0.mk (IsS119.grown (IU119 HI302.out) hg (IsS119.own_ne HI302.out HO329.out (by decide))); replace HO326 := Aside0.mk (Kd.R_after (ok := (fun _ => True)) (RU HO326.out) hg hat); replace HB := Aside0.mk hb; have HO332 := Aside0.mk ho; clear HO329; clear ho hb hg hat))
          go_ret2
          exact ⟨_, ER, RU (Kd.R_mono HO332.out (fun _ hk => trivial)), BV119 HI302.out HB.out⟩
         ·rw [if_neg c37] at H; exact absurd H (by simp)
        ·rw [if_neg c36] at H; exact absurd H (by simp)

/-! ### slices_Index_bool_bool: function 69 -/
def slices_Index_bool_bool.l0 : Nat → List Bool → Bool → Int → Int → Option (Int)
 | 0, _, _, _, _ => none
 | k + 1, x0, x1, x7, x8 => if x8 < x7 then (if 0 ≤ x8 then (if x8 < (x0.length : Int) then (if (x1 == (rdOf false x0 x8)) = true then (some x8) else (slices_Index_bool_bool.l0 k x0 x1 x7 (wrap64 (x8 + 1)))) else (none)) else (none)) else (some (-1))
def slices_Index_bool_bool.f (k : Nat) (l0 : List Bool) (a1 : Bool) : Option (Int) := slices_Index_bool_bool.l0 k l0 a1 (l0.length : Int) 0
set_option maxHeartbeats 8000000 in
set_option maxRecDepth 100000 in
theorem slices_Index_bool_bool.calls (k : Nat) (A0 : Option Addr) (c0 : Nat) (l0 : List Bool) (a1 : Bool) (r : Int) (w : World) (hr0 : Kd.C Kd.bool w A0 l0.length l0) (hc0 : l0.length ≤ c0) (h : slices_Index_bool_bool.f k l0 a1 = some r) :
  Calls Tryz.prog 69 #[.slice A0 l0.length c0, .bool a1] w fun e w' => e = .returned (.int .i64 r) ∧ Drawn0 w w' := by
 have HR0 := Aside0.mk hr0; have HC0 := Aside0.mk hc0; clear hr0 hc0; have H : (slices_Index_bool_bool.l0 k l0 a1 (l0.length : Int) 0) = some r := h; clear h; have H' := Aside0.mk H; clear H; go_enter Tryz.func69, Tryz.ntmps69; go_wp2
 go_loopg [8] k (fun kq v8 w' => ∃ (x8_1 : Int), v8 = .int .i64 x8_1 ∧ Aside0 (slices_Index_bool_bool.l0 kq l0 a1 (l0.length : Int) x8_1 = some r) ∧ Aside0 (kq ≤ k) ∧ Drawn0 w w')
 case atStart => exact ⟨(0), EB, H', ⟨Nat.le_refl _⟩, DR⟩
 case round =>
  clear H'; (try clear p2); obtain ⟨x8_1, rfl, HA, HK1, ⟨m1, rfl⟩⟩ := hrel
  cases gk with
  | zero => exact absurd HA.out (by simp [slices_Index_bool_bool.l0])
  | succ k1 =>
   have H := HA.out; clear HA; simp only [slices_Index_bool_bool.l0] at H
   by_cases c3 : x8_1 < (l0.length : Int)
   ·rw [if_pos c3] at H; have c3b0 := decide_eq_true c3; clear c3
    by_cases c4 : 0 ≤ x8_1
    ·rw [if_pos c4] at H; have c4b0 := decide_eq_true c4; clear c4
     by_cases c5 : x8_1 < (l0.length : Int)
     ·rw [if_pos c5] at H; have c5b0 := decide_eq_true c5; clear c5
      by_cases c6 : (a1 == (rdOf false l0 x8_1)) = true
      ·rw [if_pos c6] at H; have c6b0 : (a1 == (rdOf false l0 x8_1)) = true := c6
       (try (have c6b1 : decide (a1 = (rdOf false l0 x8_1)) = true := by simpa using c6))
       (try (have c6b2 : (a1 == (rdOf false l0 x8_1)) = true := by simpa using c6))
       clear c6; obtain rfl := Option.some.inj H; have p333 : 0 ≤ (x8_1 : Int) := OD; have q333 : x8_1 < (l0.length : Int) := OD; obtain ⟨ad333, e333, hx333_0⟩ := Kd.at_bool HR0.out x8_1 p333 q333
       cases e333
       replace p333 := eq_true p333; replace q333 := eq_true q333; go_wp2
       go_ret
       exact ⟨EB, DR⟩
      ·rw [if_neg c6] at H
       have c6b0 : (a1 == (rdOf false l0 x8_1)) = false := by simpa using c6
       (try (have c6b1 : decide (a1 = (rdOf false l0 x8_1)) = false := by simpa using c6))
       (try (have c6b2 : (a1 == (rdOf false l0 x8_1)) = false := by simpa using c6))
       (try (have c6b3 : ¬ (a1 = (rdOf false l0 x8_1)) := by simpa using c6))
       clear c6; have H' := Aside0.mk H; clear H; have p333 : 0 ≤ (x8_1 : Int) := OD; have q333 : x8_1 < (l0.length : Int) := OD; obtain ⟨ad333, e333, hx333_0⟩ := Kd.at_bool HR0.out x8_1 p333 q333
       cases e333
       replace p333 := eq_true p333; replace q333 := eq_true q333; go_wp2; go_roundg k1
       case measure => have := HK1.out; omega
       case rel => exact ⟨(wrap64 (x8_1 + 1)), EB, H', ⟨by have := HK1.out; omega⟩, DR⟩
     ·rw [if_neg c5] at H; exact absurd H (by simp)
    ·rw [if_neg c4] at H; exact absurd H (by simp)
   ·rw [if_neg c3] at H; have c3b0 := decide_eq_false c3; clear c3; obtain rfl := Option.some.inj H; go_wp2
    go_ret
    exact ⟨EB, DR⟩

/-! ### slices_Contains_bool_bool: function 41 -/
def slices_Contains_bool_bool.f (k : Nat) (l0 : List Bool) (a1 : Bool) : Option (Bool) := (slices_Index_bool_bool.f k l0 a1).bind fun t334 => (some (decide (t334 ≥ 0)))
set_option maxHeartbeats 8000000 in
set_option maxRecDepth 100000 in
theorem slices_Contains_bool_bool.calls (k : Nat) (A0 : Option Addr) (c0 : Nat) (l0 : List Bool) (a1 : Bool) (r : Bool) (w : World) (hr0 : Kd.C Kd.bool w A0 l0.length l0) (hc0 : l0.length ≤ c0) (h : slices_Contains_bool_bool.f k l0 a1 = some r) :
  Calls Tryz.prog 41 #[.slice A0 l0.length c0, .bool a1] w fun e w' => e = .returned (.bool r) ∧ Drawn0 w w' := by
 have HR0 := Aside0.mk hr0; have HC0 := Aside0.mk hc0; clear hr0 hc0; have H : ((slices_Index_bool_bool.f k l0 a1).bind fun t334 => (some (decide (t334 ≥ 0)))) = some r := h; clear h; replace H := Option.bind_eq_some_iff.mp H; obtain ⟨t334, A30, H⟩ := H; replace H : (some (decide (t334 ≥ 0))) = some r := H; have A3 := Aside0.mk A30; clear A30; obtain rfl := Option.some.inj H; go_enter Tryz.func41, Tryz.ntmps41
 go_wp2_with (first | (go_at_call 69; (with_reducible refine (slices_Index_bool_bool.calls k _ _ l0 a1 t334 _ ?side1 ?side2 A3.out).mono ?_); (case side1 => exact CU HR0.out); (case side2 => exact HC0.out); rintro e w' ⟨rfl, ⟨nd, rfl⟩⟩))
 go_ret
 exact ⟨EB, DR⟩

end Go.Proofs.YtehbkhddbdgbcaaGreatDoor.PChunkBack
