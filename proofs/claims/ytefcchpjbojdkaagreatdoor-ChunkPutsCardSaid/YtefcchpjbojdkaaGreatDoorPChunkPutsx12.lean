/- WRITTEN BY A PROGRAM of this session (wip/tool: a turned copy of the printer), out of the translation: Lean functions with the answers of the Go functions, and the proofs that the Go code comes to them. -/
import Derived.Test.YtefcchpjbojdkaaGreatDoorPChunkPutsx0
import Derived.Test.YtefcchpjbojdkaaGreatDoorPChunkPutsx3
import Derived.Test.YtefcchpjbojdkaaGreatDoorPChunkPutsx4
import Derived.Test.YtefcchpjbojdkaaGreatDoorPChunkPutsx5
import Derived.Test.YtefcchpjbojdkaaGreatDoorPChunkPutsx6
import Derived.Test.YtefcchpjbojdkaaGreatDoorPChunkPutsx11
namespace Go.Proofs.YtefcchpjbojdkaaGreatDoor.PChunkPuts
open Go.RowKit Go.Proofs.YtefcchpjbojdkaaGreatDoorW.PrintWords Go.Proofs.YtefcchpjbojdkaaGreatDoorW.PrintLast Go.Proofs.YtefcchpjbojdkaaGreatDoorW.PrintMore
attribute [local go_sem] max2_int min2_int max_two min_two max_three min_three max_four min_four   -- for this text's walks alone
set_option linter.unusedVariables false
set_option linter.unusedSimpArgs false

/-- A map's pairs, the newest first, as the datum that the map reads as. -/
def mpD : List (Int × Int) → DataW Unit
 | [] => .map []
 | p :: s => (mpD s).put (.int .i64 p.1) (.lit (.int .u64 p.2))
def mpGet : List (Int × Int) → Int → Int
 | [], _ => 0
 | p :: s, k => if p.1 = k then p.2 else mpGet s k
def mp_new.f : Option (List (Int × Int)) := some []
def mp_put.f (s : List (Int × Int)) (k v : Int) : Option (List (Int × Int)) := if (Lit.int .i64 k).wf = true ∧ (Lit.int .u64 v).wf = true ∧ s.length < 140737488355328 then some ((k, v) :: s) else none
def mp_get.f (s : List (Int × Int)) (k : Int) : Option (Int × List (Int × Int)) := if (Lit.int .i64 k).wf = true then some (mpGet s k, s) else none
theorem mpD_isMap : ∀ s, Go.Maps.IsMap (mpD s)
 | [] => Go.Maps.isMap_empty
 | _ :: s => (mpD_isMap s).put _ _
theorem mpD_at : ∀ (s : List (Int × Int)) (k : Int), (mpD s).atKey (.int .i64 k) (.lit (.int .u64 0)) = .lit (.int .u64 (mpGet s k))
 | [], k => rfl
 | p :: s, k => by
  show ((mpD s).put _ _).atKey _ _ = _
  unfold mpGet
  by_cases h : p.1 = k
  ·rw [if_pos h, h, Go.Maps.atKey_put_same (mpD_isMap s) (by simp [WideAt.IsKeyLit])]
  ·rw [if_neg h, Go.Maps.atKey_put_other (by rintro e; exact h (by injection e with _ e; exact e.symm)), mpD_at s k]
theorem mp_under : Tryz.prog.underlying 102 = some (.map 2 66) := by kernel_rfl
theorem mp_underK : Tryz.prog.underlying 2 = some (.int .i64) := by kernel_rfl
theorem mp_underE : Tryz.prog.underlying 66 = some (.int .u64) := by kernel_rfl
/-- A map at block g of W. -/
def IsS102 (w0 W : World) (g : Nat) (f0 : List (Int × Int)) : Prop := W.ownsMap Tryz.prog 2 (plainElem Tryz.prog 66) g f0.length (mpD f0) ∧ w0.heap.size ≤ g
section
variable {w0 W : World} {g : Nat} {f0 : List (Int × Int)}
theorem IsS102.lt (h : IsS102 w0 W g f0) : g < W.heap.size := h.1.lt
theorem IsS102.ge (h : IsS102 w0 W g f0) : w0.heap.size ≤ g := h.2
theorem IsS102.grown {W1 : World} {row : Option Nat} (h : IsS102 w0 W g f0) (hw : W.grownBy W1 row) (hne : some g ≠ row) : IsS102 w0 W1 g f0 := ⟨h.1.kept hw hne, h.2⟩
theorem IsS102.step {W1 : World} (h : IsS102 w0 W g f0) (hk : W1.heap[g]? = W.heap[g]?) : IsS102 w0 W1 g f0 := by
 obtain ⟨⟨es, clock, hb, r⟩, hg⟩ := h
 exact ⟨⟨es, clock, hk.trans hb, r⟩, hg⟩
theorem IsS102.kept {W1 : World} {S : Nat → Prop} (h : IsS102 w0 W g f0) (hk : Kept W W1 S) (hne : ¬ S g) : IsS102 w0 W1 g f0 := h.step (hk.2 g h.lt hne)
theorem IsS102.below {W1 : World} (h : IsS102 w0 W g f0) (hw : Below W.heap.size W W1) : IsS102 w0 W1 g f0 := h.step (hw.block g h.lt)
theorem IsS102.alloc (h : IsS102 w0 W g f0) (o : Obj) : IsS102 w0 (W.alloc o) g f0 := h.below (below_alloc (Below.refl _ _) o)
theorem IsS102.drewN (h : IsS102 w0 W g f0) (m : Nat) : IsS102 w0 (W.drewN m) g f0 := h.below (pw_below_drewN (Below.refl _ _) m)
theorem IsS102.drew (h : IsS102 w0 W g f0) : IsS102 w0 W.drew g f0 := h.below (below_drew1 (Below.refl _ _))
theorem IsS102.at_ {w' : World} {m : Nat} (hq : W.drewN m = w') (h : IsS102 w0 W g f0) : IsS102 w0 w' g f0 := by subst hq; exact IsS102.drewN h m
variable {α : Type} {d : Kd α} {e : Nat} {base : Nat} {ok : Nat → Prop} {v : Value} {xs : List α}
theorem IsS102.own_ne (h : IsS102 w0 W g f0) (ho : Kd.R d e W base ok v xs) (_ : e ≠ 102) : some g ≠ v.ownBlock := by
 intro hv
 obtain ⟨inner, hw⟩ := Kd.R_own ho
 obtain ⟨cs, hc⟩ := own_typed hw g hv.symm
 obtain ⟨⟨es, clock, hb, r⟩, hg⟩ := h
 rw [hb] at hc
 cases hc
theorem IsS102.apart (h : IsS102 w0 W g f0) (ho : Kd.R d e W base ok v xs) (_ : ∀ q, q ∈ e :: d.E → q ≠ 102) : Kd.R d e W base (fun k => ok k ∧ k ≠ g) v xs := by
 obtain ⟨⟨es, clock, hb, r⟩, hg⟩ := h
 refine Kd.R_mono (Kd.R_bound ho) (fun k hk => ⟨hk.1, ?_⟩)
 rintro rfl
 obtain ⟨_, _, _, q, _, cells, hc⟩ := hk
 rw [hb] at hc
 cases hc
variable {P : Program} {ops : Array Oper} {rest : List Oper} {o : Oper} {a : Act} {Q : Exit → Act → World → Prop}
theorem mp_new.wp (hg : o.guard = none) (hop : o.op = Op.makeMap 102 none) (r : List (Int × Int)) (hB : Below w0.heap.size w0 W) (hr : mp_new.f = some r)
  (h : ∀ (e : Ending) (w' : World), (∃ g_ : Nat, e = .returned (.map (some g_)) ∧ IsS102 w0 w' g_ r ∧ Below w0.heap.size w0 w' ∧ Below W.heap.size W w') → ∃ v : Value, e = .returned v ∧ wpList Tryz.prog ops Q rest (a.put o.dst v) w') : wpList Tryz.prog ops Q (o :: rest) a W := by
 obtain rfl := Option.some.inj hr
 refine wpList_plain hg fun K' hK' => ?_
 have hrun := run_makeMap (P := Tryz.prog) 102 W
 obtain ⟨v, hv, hw⟩ := h (.returned (.map (some W.heap.size))) (W.alloc (.map #[] 0)) ⟨_, rfl, ⟨World.ownsMap_made _ _ _ _, hB.size⟩, below_alloc hB _, below_alloc (Below.refl _ _) _⟩
 cases hv
 unfold Oper.wp
 simp [execOp, hop, hrun, Result.andThen]
 exact hK' _ _ hw
theorem mp_put.wp (hg : o.guard = none) (m x y : Operand) (hop : o.op = Op.mapUpdate 102 m x y) (g : Nat) (s : List (Int × Int)) (k u : Int) (r : List (Int × Int)) (hm : a.eval m = .map (some g)) (hx : a.eval x = .int .i64 k) (hy : a.eval y = .int .u64 u) (hI : IsS102 w0 W g s) (hB : Below w0.heap.size w0 W) (hr : mp_put.f s k u = some r)
  (h : ∀ (e : Ending) (w' : World), (e = .returned (.tuple #[]) ∧ IsS102 w0 w' g r ∧ Below w0.heap.size w0 w' ∧ KeepBut W w' g none) → ∃ v : Value, e = .returned v ∧ wpList Tryz.prog ops Q rest (a.put o.dst undef) w') : wpList Tryz.prog ops Q (o :: rest) a W := by
 unfold mp_put.f at hr
 by_cases hc : (Lit.int .i64 k).wf = true ∧ (Lit.int .u64 u).wf = true ∧ s.length < 140737488355328
 ·rw [if_pos hc] at hr
  obtain rfl := Option.some.inj hr
  refine wpList_mapUpdate_own W hg m x y 102 hop 2 66 (Go.Maps.int_keyed mp_underK) mp_under _ g s.length (mpD s) hm hI.1 (by unfold maxLen; omega) _ _ (.int .i64 k) hx hy (Go.Maps.keyOf_int_mk mp_underK hc.1) (.lit (.int .u64 u)) [] (plainElem_int mp_underE hc.2.1) (fun w' h1 h2 => ?_)
  obtain ⟨v, hv, hw⟩ := h (.returned (.tuple #[])) w' ⟨rfl, ⟨h1, hI.2⟩, hB.grown h2 hB.size (fun j hj => by cases hj; exact hI.2), ⟨h2.size, fun k hk hne _ => h2.block k hk (by simpa using hne)⟩⟩
  exact hw
 ·rw [if_neg hc] at hr; cases hr
theorem mp_get.wp (hg : o.guard = none) (m x : Operand) (hop : o.op = Op.lookup 102 m x false) (g : Nat) (s : List (Int × Int)) (k r1 : Int) (r2 : List (Int × Int)) (hm : a.eval m = .map (some g)) (hx : a.eval x = .int .i64 k) (hI : IsS102 w0 W g s) (hB : Below w0.heap.size w0 W) (hr : mp_get.f s k = some (r1, r2))
  (h : ∀ (e : Ending) (w' : World), (e = .returned (.int .u64 r1) ∧ IsS102 w0 w' g r2 ∧ Below w0.heap.size w0 w' ∧ KeepBut W w' g none) → ∃ v : Value, e = .returned v ∧ wpList Tryz.prog ops Q rest (a.put o.dst v) w') : wpList Tryz.prog ops Q (o :: rest) a W := by
 unfold mp_get.f at hr
 by_cases hc : (Lit.int .i64 k).wf = true
 ·rw [if_pos hc] at hr
  simp only [Option.some.injEq, Prod.mk.injEq] at hr
  obtain ⟨rfl, rfl⟩ := hr
  refine wpList_lookup_own_int W hg m x 102 hop 2 66 .u64 (Go.Maps.int_keyed mp_underK) mp_under mp_underE (by kernel_rfl) g s.length (mpD s) hm hI.1 _ (.int .i64 k) hx (Go.Maps.keyOf_int_mk mp_underK hc) (fun c hat _ => ?_)
  rw [mpD_at] at hat
  injection hat with hat
  injection hat with _ hat
  subst hat
  obtain ⟨v, hv, hw⟩ := h _ W ⟨rfl, hI, hB, KeepBut.refl _ _ _⟩
  cases hv
  exact hw
 ·rw [if_neg hc] at hr; cases hr
end


/-! ### dict_Put: function 50 -/
mutual
def dict_Put.l0 : Nat → List Int → List Int → List Int → List Int → Int → Int → List (Int × Int) → Option (List Int × Int)
 | 0, _, _, _, _, _, _, _ => none
 | k + 1, x0, x4, x6, x25, x26, x27, x395000 => if x27 < x26 then (if 0 ≤ x27 then (if x27 < (x25.length : Int) then ((mp_put.f x395000 (rd x25 x27) (IntKind.u64.wrap (x27))).bind fun t399 => (if x27 = 0 then ((num_Zig.f (rd x25 x27)).bind fun t400 => ((num_PutVar.f k x6 t400).bind fun t401 => (dict_Put.l0 k x0 x4 t401 x25 x26 (wrap64 (x27 + 1)) t399))) else (if 0 ≤ (wrap64 (x27 - 1)) then (if (wrap64 (x27 - 1)) < (x4.length : Int) then ((num_PutVar.f k x6 (IntKind.u64.wrap ((IntKind.u64.wrap (wrap64 ((rd x25 x27) - (rd x4 (wrap64 (x27 - 1)))))) - 1))).bind fun t405 => (dict_Put.l0 k x0 x4 t405 x25 x26 (wrap64 (x27 + 1)) t399)) else (none)) else (none)))) else (none)) else (none)) else (dict_Put.l1 k x4 x6 ([] : List Int) x0 (x0.length : Int) 0 x395000)
def dict_Put.l1 : Nat → List Int → List Int → List Int → List Int → Int → Int → List (Int × Int) → Option (List Int × Int)
 | 0, _, _, _, _, _, _, _ => none
 | k + 1, x4, x6, x9, x54, x55, x56, x395000 => if x56 < x55 then (if 0 ≤ x56 then (if x56 < (x54.length : Int) then ((mp_get.f x395000 (rd x54 x56)).bind fun bt409 => (if x9.length < 17592186044416 then (dict_Put.l1 k x4 x6 (x9 ++ [bt409.1]) x54 x55 (wrap64 (x56 + 1)) bt409.2) else (none))) else (none)) else (none)) else ((dict_width.f (x4.length : Int)).bind fun t414 => ((bits_Pack.f k x9 t414).bind fun bt415 => (if x6.length < 140737488355328 then ((some (x6 ++ [(t414) % 256] : List Int)).bind fun y419 => (if y419.length + bt415.1.length < 140737488355328 then (some ((y419 ++ bt415.1), bt415.2)) else (none))) else (none))))
end
def dict_Put.f (k : Nat) (l0 : List Int) : Option (List Int × Int) := if (l0.length : Int) > 65536 then (some (([] : List Int), 12)) else ((dict_List.f l0).bind fun t390 => ((mp_new.f).bind fun t393 => ((num_PutVar.f k ([] : List Int) (IntKind.u64.wrap ((t390.length : Int)))).bind fun t395 => (dict_Put.l0 k l0 t390 t395 t390 (t390.length : Int) 0 t393))))
set_option maxHeartbeats 8000000 in
set_option maxRecDepth 100000 in
theorem dict_Put.calls (k : Nat) (A0 : Option Addr) (c0 : Nat) (l0 : List Int) (r1 : List Int) (r2 : Int) (w : World) (hr0 : Kd.C (Kd.int .i64) w A0 l0.length l0) (hc0 : l0.length ≤ c0) (h : dict_Put.f k l0 = some (r1, r2)) :
  Calls Tryz.prog 50 #[.slice A0 l0.length c0] w fun e w' => ∃ v0_ : Value, e = .returned (.tuple #[v0_, .int .i64 r2]) ∧ Kd.R (Kd.int .u8) 5 w' w.heap.size (fun _ => True) v0_ r1 ∧ Below w.heap.size w w' := by
 have HR0 := Aside0.mk hr0
 have HC0 := Aside0.mk hc0
 clear hr0 hc0
 have HB := Aside0.mk (Below.refl w.heap.size w)
 have H : (if (l0.length : Int) > 65536 then (some (([] : List Int), 12)) else ((dict_List.f l0).bind fun t390 => ((mp_new.f).bind fun t393 => ((num_PutVar.f k ([] : List Int) (IntKind.u64.wrap ((t390.length : Int)))).bind fun t395 => (dict_Put.l0 k l0 t390 t395 t390 (t390.length : Int) 0 t393))))) = some (r1, r2) := h
 clear h
 by_cases c2 : (l0.length : Int) > 65536
 ·rw [if_pos c2] at H
  have c2b0 : decide (65536 < (l0.length : Int)) = true := decide_eq_true c2
  have c2b1 : decide (65536 < l0.length) = true := decide_eq_true (by omega)
  clear c2
  simp only [Option.some.injEq, Prod.mk.injEq] at H
  obtain ⟨rfl, rfl⟩ := H
  go_enter Tryz.func50, Tryz.ntmps50
  go_wp2
  go_ret2
  exact ⟨_, by first | rfl | (simp [errW_none, errW_some] <;> rfl) | (simp [*, errW_none, errW_some] <;> rfl), by first | exact Kd.R_nil _ _ _ _ _ | exact Kd.N_nil _ _ _ _ _ | exact Kd.V_nil _ _ _ _ _ | exact Kd.Q_nil _ _ _ _ _ | exact Kd.S_nil _ _ _ _ _, BU HB.out⟩
 ·rw [if_neg c2] at H
  have c2b0 : decide (65536 < (l0.length : Int)) = false := decide_eq_false c2
  have c2b1 : decide (65536 < l0.length) = false := decide_eq_false (by omega)
  clear c2
  replace H := Option.bind_eq_some_iff.mp H
  obtain ⟨t390, A30, H⟩ := H
  replace H : ((mp_new.f).bind fun t393 => ((num_PutVar.f k ([] : List Int) (IntKind.u64.wrap ((t390.length : Int)))).bind fun t395 => (dict_Put.l0 k l0 t390 t395 t390 (t390.length : Int) 0 t393))) = some (r1, r2) := H
  have A3 := Aside0.mk A30
  clear A30
  replace H := Option.bind_eq_some_iff.mp H
  obtain ⟨t393, A40, H⟩ := H
  replace H : ((num_PutVar.f k ([] : List Int) (IntKind.u64.wrap ((t390.length : Int)))).bind fun t395 => (dict_Put.l0 k l0 t390 t395 t390 (t390.length : Int) 0 t393)) = some (r1, r2) := H
  have A4 := Aside0.mk A40
  clear A40
  replace H := Option.bind_eq_some_iff.mp H
  obtain ⟨t395, A50, H⟩ := H
  replace H : (dict_Put.l0 k l0 t390 t395 t390 (t390.length : Int) 0 t393) = some (r1, r2) := H
  have A5 := Aside0.mk A50
  clear A50
  have H' := Aside0.mk H
  clear H
  go_enter Tryz.func50, Tryz.ntmps50
  go_wp2_with (first | ((with_reducible refine gate_callee (f := 90) rfl ?_); refine goesL_ (some 19) rfl rfl Tryz.func90 (by kernel_rfl) rfl #[.slice A0 l0.length c0] rfl EA ?_; (with_reducible refine (dict_List.calls _ _ l0 t390 _ ?side1 ?side2 A3.out).mono ?_); (case side1 => exact CU HR0.out); (case side2 => exact HC0.out); rintro e w6 ⟨v391, rfl, ho0, hb⟩; refine ⟨_, rfl, ?_⟩; have n0_ := Aside0.mk (Kd.R_lower ho0 (below_size (BU HB.out))); have n1_ := Aside0.mk (below_step (BU HB.out) hb); clear HB; have HO392 := n0_; have HB := n1_; clear n0_ n1_; (try clear hb); (try clear hb2); (try clear hk); (try clear hi); (try clear ho0)) | (refine mp_new.wp (w0 := w) rfl rfl  t393  ?side1 A4.out ?_; (case side1 => repeat (first | (with_reducible first | exact HB.out | apply below_alloc | apply pw_below_drewN | apply below_drew1) | exact HB.out)); rintro e w7 ⟨g394, rfl, hi, hb, hb2⟩; refine ⟨_, rfl, ?_⟩; have n0_ := Aside0.mk (Kd.R_below (RU HO392.out) hb2); have n1_ := Aside0.mk (hb); have n2_ := Aside0.mk (hi); clear HO392 HB; have HO392 := n0_; have HB := n1_; have HI394 := n2_; clear n0_ n1_ n2_; (try clear hb); (try clear hb2); (try clear hk); (try clear hi); obtain ⟨Ao8, co8, eo8⟩ := Kd.R_slice HO392.out; subst eo8) | ((with_reducible refine gate_callee (f := 39) rfl ?_); refine goesL_ (some 24) rfl rfl Tryz.func39 (by kernel_rfl) rfl #[.slice none 0 0, .int .u64 (IntKind.u64.wrap ((t390.length : Int)))] rfl EA ?_; (refine (num_PutVar.calls k (fun k_ => some k_ = (.slice none 0 0 : Value).ownBlock) (.slice none 0 0) ([] : List Int) (IntKind.u64.wrap ((t390.length : Int))) t395 w _ ?side1 ?side2 A5.out).mono ?_); (case side1 => repeat (first | (with_reducible first | exact HB.out | apply below_alloc | apply pw_below_drewN | apply below_drew1 | refine below_set ?_ (IsS102.ge HI394.out)) | exact HB.out)); (case side2 => exact Kd.R_nil _ _ _ _ _); rintro e w9 ⟨v396, rfl, ho0, hb, hkp⟩; refine ⟨_, rfl, ?_⟩; have n0_ := Aside0.mk (Kd.R_mono (ok' := fun k_ => True) (Kd.R_keptB (HO392.out) hkp (fun k_ hk_ hs_ => (fun e_ => by simp [Value.ownBlock] at e_) hs_)) (fun k_ hk_ => trivial)); have n1_ := Aside0.mk (IsS102.kept (by repeat (first | (with_reducible first | exact HI394.out | apply IsS102.alloc | apply IsS102.drewN | apply IsS102.drew | apply IsS102.set_0) | exact HI394.out)) hkp (fun hs_ => (fun e_ => by simp [Value.ownBlock] at e_) hs_)); have n2_ := Aside0.mk (Kd.R_mono (ok' := fun k_ => True) ho0 (fun k_ hk_ => trivial)); have n3_ := Aside0.mk (hb); clear HO392 HI394 HB; have HO392 := n0_; have HI394 := n1_; have HO397 := n2_; have HB := n3_; clear n0_ n1_ n2_ n3_; (try clear hb); (try clear hkp); (try clear ho0)))
  go_loopg [6, 27] k (fun kq v6 v27 w' => ∃ (x6_1 : List Int) (x27_1 : Int) (x395000_1 : List (Int × Int)), v27 = .int .i64 x27_1 ∧ Aside0 (dict_Put.l0 kq l0 t390 x6_1 t390 (t390.length : Int) x27_1 x395000_1 = some (r1, r2)) ∧ Aside0 (kq ≤ k) ∧ Aside0 (Kd.R (Kd.int .i64) 2 w' w.heap.size (fun _ => True) (.slice Ao8 t390.length co8) t390) ∧ Aside0 (Kd.R (Kd.int .u8) 5 w' w.heap.size (fun _ => True) v6 x6_1) ∧ Aside0 (Kd.R (Kd.int .i64) 2 w' w.heap.size (fun _ => True) (.slice Ao8 t390.length co8) t390) ∧ Aside0 (IsS102 w w' g394 x395000_1) ∧ Aside0 (Below w.heap.size w w'))
  case atStart => exact ⟨(t395), (0), (t393), EB, H', ⟨Nat.le_refl _⟩, ⟨RU HO392.out⟩, ⟨RU HO397.out⟩, ⟨RU HO392.out⟩, ⟨by repeat (first | (with_reducible first | exact HI394.out | apply IsS102.alloc | apply IsS102.drewN | apply IsS102.drew | apply IsS102.set_0) | exact HI394.out)⟩, ⟨by repeat (first | (with_reducible first | exact HB.out | apply below_alloc | apply pw_below_drewN | apply below_drew1 | refine below_set ?_ (IsS102.ge HI394.out)) | exact HB.out)⟩⟩
  case round =>
   clear H'
   try clear c2
   try clear c2b0
   try clear c2b1
   try clear p2
   try clear c3
   try clear c5
   try clear c9
   obtain ⟨x6_1, x27_1, x395000_1, rfl, HA, HK1, HO_4, HO_6, HO_25, HI394, HB⟩ := hrel
   cases gk with
   | zero => exact absurd HA.out (by simp [dict_Put.l0])
   | succ k1 =>
    have H := HA.out
    clear HA
    simp only [dict_Put.l0] at H
    by_cases c10 : x27_1 < (t390.length : Int)
    ·rw [if_pos c10] at H
     have c10b0 : decide (x27_1 < (t390.length : Int)) = true := decide_eq_true c10
     clear c10
     by_cases c11 : 0 ≤ x27_1
     ·rw [if_pos c11] at H
      have c11b0 : decide (0 ≤ x27_1) = true := decide_eq_true c11
      clear c11
      by_cases c12 : x27_1 < (t390.length : Int)
      ·rw [if_pos c12] at H
       have c12b0 : decide (x27_1 < (t390.length : Int)) = true := decide_eq_true c12
       clear c12
       replace H := Option.bind_eq_some_iff.mp H
       obtain ⟨t399, A130, H⟩ := H
       replace H : (if x27_1 = 0 then ((num_Zig.f (rd t390 x27_1)).bind fun t400 => ((num_PutVar.f k1 x6_1 t400).bind fun t401 => (dict_Put.l0 k1 l0 t390 t401 t390 (t390.length : Int) (wrap64 (x27_1 + 1)) t399))) else (if 0 ≤ (wrap64 (x27_1 - 1)) then (if (wrap64 (x27_1 - 1)) < (t390.length : Int) then ((num_PutVar.f k1 x6_1 (IntKind.u64.wrap ((IntKind.u64.wrap (wrap64 ((rd t390 x27_1) - (rd t390 (wrap64 (x27_1 - 1)))))) - 1))).bind fun t405 => (dict_Put.l0 k1 l0 t390 t405 t390 (t390.length : Int) (wrap64 (x27_1 + 1)) t399)) else (none)) else (none))) = some (r1, r2) := H
       have A13 := Aside0.mk A130
       clear A130
       by_cases c14 : x27_1 = 0
       ·rw [if_pos c14] at H
        have c14b0 : (x27_1 == 0) = true := beq_iff_eq.mpr c14
        have c14b1 : (x27_1 != 0) = false := bne_eq_false_iff_eq.mpr c14
        clear c14
        replace H := Option.bind_eq_some_iff.mp H
        obtain ⟨t400, A150, H⟩ := H
        replace H : ((num_PutVar.f k1 x6_1 t400).bind fun t401 => (dict_Put.l0 k1 l0 t390 t401 t390 (t390.length : Int) (wrap64 (x27_1 + 1)) t399)) = some (r1, r2) := H
        have A15 := Aside0.mk A150
        clear A150
        replace H := Option.bind_eq_some_iff.mp H
        obtain ⟨t401, A160, H⟩ := H
        replace H : (dict_Put.l0 k1 l0 t390 t401 t390 (t390.length : Int) (wrap64 (x27_1 + 1)) t399) = some (r1, r2) := H
        have A16 := Aside0.mk A160
        clear A160
        have H' := Aside0.mk H
        clear H
        have p398 : 0 ≤ (x27_1 : Int) := OD
        have q398 : x27_1 < (t390.length : Int) := OD
        obtain ⟨ad398, e398, hx398_0⟩ := Kd.at_int (Kd.R_reads' HO_25.out).2.2 x27_1 p398 q398
        cases e398
        replace p398 := eq_true p398
        replace q398 := eq_true q398
        go_wp2_with (first | (at_mapUpdate; refine mp_put.wp (w0 := w) rfl (.tmp 32) (.tmp 33) (.tmp 35) rfl g394 x395000_1 (rd t390 x27_1) (IntKind.u64.wrap (x27_1)) t399 rfl rfl rfl  ?side1 ?side2 A13.out ?_; (case side1 => repeat (first | (with_reducible first | exact HI394.out | apply IsS102.alloc | apply IsS102.drewN | apply IsS102.drew | apply IsS102.set_0) | exact HI394.out)); (case side2 => repeat (first | (with_reducible first | exact HB.out | apply below_alloc | apply pw_below_drewN | apply below_drew1 | refine below_set ?_ (IsS102.ge HI394.out)) | exact HB.out)); rintro e w17 ⟨rfl, hi, hb, hk⟩; refine ⟨_, rfl, ?_⟩; have n0_ := Aside0.mk (Kd.R_mono (Kd.R_keep (IsS102.apart (show IsS102 w _ g394 x395000_1 from by repeat (first | (with_reducible first | exact HI394.out | apply IsS102.alloc | apply IsS102.drewN | apply IsS102.drew | apply IsS102.set_0) | exact HI394.out)) (RU HO_4.out) (by decide)) hk (fun _ h => h.2)) (fun _ h => h.1)); have n1_ := Aside0.mk (Kd.R_mono (Kd.R_keep (IsS102.apart (show IsS102 w _ g394 x395000_1 from by repeat (first | (with_reducible first | exact HI394.out | apply IsS102.alloc | apply IsS102.drewN | apply IsS102.drew | apply IsS102.set_0) | exact HI394.out)) (RU HO_6.out) (by decide)) hk (fun _ h => h.2)) (fun _ h => h.1)); have n2_ := Aside0.mk (Kd.R_mono (Kd.R_keep (IsS102.apart (show IsS102 w _ g394 x395000_1 from by repeat (first | (with_reducible first | exact HI394.out | apply IsS102.alloc | apply IsS102.drewN | apply IsS102.drew | apply IsS102.set_0) | exact HI394.out)) (RU HO_25.out) (by decide)) hk (fun _ h => h.2)) (fun _ h => h.1)); have n3_ := Aside0.mk (hb); have n4_ := Aside0.mk (hi); clear HO_4 HO_6 HO_25 HB HI394; have HO_4 := n0_; have HO_6 := n1_; have HO_25 := n2_; have HB := n3_; have HI394 := n4_; clear n0_ n1_ n2_ n3_ n4_; (try clear hb); (try clear hb2); (try clear hk); (try clear hi)) | ((with_reducible refine gate_callee (f := 78) rfl ?_); refine goesL_ (some 40) rfl rfl Tryz.func78 (by kernel_rfl) rfl #[.int .i64 (rd t390 x27_1)] rfl EA ?_; (with_reducible refine (num_Zig.calls (rd t390 x27_1) t400 _ A15.out).mono ?_); rintro e w' ⟨rfl, ⟨nd, rfl⟩⟩; refine ⟨_, rfl, ?_⟩; obtain ⟨Ao18, co18, eo18⟩ := Kd.R_slice HO_6.out; subst eo18) | ((with_reducible refine gate_callee (f := 39) rfl ?_); refine goesL_ (some 41) rfl rfl Tryz.func39 (by kernel_rfl) rfl #[.slice Ao18 x6_1.length co18, .int .u64 t400] rfl EA ?_; (with_reducible refine (num_PutVar.calls k1 (fun k_ => some k_ = (.slice Ao18 x6_1.length co18 : Value).ownBlock) (.slice Ao18 x6_1.length co18) x6_1 t400 t401 w _ ?side1 ?side2 A16.out).mono ?_); (case side1 => repeat (first | (with_reducible first | exact HB.out | apply below_alloc | apply pw_below_drewN | apply below_drew1 | refine below_set ?_ (IsS102.ge HI394.out)) | exact HB.out)); (case side2 => exact Kd.R_tight rfl HO_6.out); rintro e w19 ⟨v402, rfl, ho0, hb, hkp⟩; refine ⟨_, rfl, ?_⟩; have n0_ := Aside0.mk (Kd.R_mono (ok' := fun k_ => True) (Kd.R_keptB ((Kd.R_apart' HO_4.out (Kd.R_typed HO_6.out) (by decide))) hkp (fun k_ hk_ hs_ => (hk_.2) hs_)) (fun k_ hk_ => trivial)); have n1_ := Aside0.mk (Kd.R_mono (ok' := fun k_ => True) (Kd.R_keptB ((Kd.R_apart' HO_25.out (Kd.R_typed HO_6.out) (by decide))) hkp (fun k_ hk_ hs_ => (hk_.2) hs_)) (fun k_ hk_ => trivial)); have n2_ := Aside0.mk (IsS102.kept (by repeat (first | (with_reducible first | exact HI394.out | apply IsS102.alloc | apply IsS102.drewN | apply IsS102.drew | apply IsS102.set_0) | exact HI394.out)) hkp (fun hs_ => (fun e_ => (IsS102.own_ne HI394.out HO_6.out (by decide)) e_) hs_)); have n3_ := Aside0.mk (Kd.R_mono (ok' := fun k_ => True) ho0 (fun k_ hk_ => trivial)); have n4_ := Aside0.mk (hb); clear HO_4 HO_25 HI394 HB HO_6; have HO_4 := n0_; have HO_25 := n1_; have HI394 := n2_; have HO403 := n3_; have HB := n4_; clear n0_ n1_ n2_ n3_ n4_; (try clear hb); (try clear hkp); (try clear ho0)))
        go_roundg k1
        case measure => have := HK1.out; omega
        case rel => exact ⟨(t401), (wrap64 (x27_1 + 1)), (t399), EB, H', ⟨by have := HK1.out; omega⟩, ⟨RU HO_4.out⟩, ⟨RU HO403.out⟩, ⟨RU HO_25.out⟩, ⟨by repeat (first | (with_reducible first | exact HI394.out | apply IsS102.alloc | apply IsS102.drewN | apply IsS102.drew | apply IsS102.set_0) | exact HI394.out)⟩, ⟨by repeat (first | (with_reducible first | exact HB.out | apply below_alloc | apply pw_below_drewN | apply below_drew1 | refine below_set ?_ (IsS102.ge HI394.out)) | exact HB.out)⟩⟩
       ·rw [if_neg c14] at H
        have c14b0 : (x27_1 == 0) = false := beq_eq_false_iff_ne.mpr c14
        have c14b1 : (x27_1 != 0) = true := bne_iff_ne.mpr c14
        obtain ⟨ji20, hji20⟩ : ∃ j_ : Int, (wrap64 (x27_1 - 1)) = j_ := ⟨_, rfl⟩
        replace H : (if 0 ≤ (ji20) then (if (ji20) < (t390.length : Int) then ((num_PutVar.f k1 x6_1 (IntKind.u64.wrap ((IntKind.u64.wrap (wrap64 ((rd t390 x27_1) - (rd t390 (ji20))))) - 1))).bind fun t405 => (dict_Put.l0 k1 l0 t390 t405 t390 (t390.length : Int) (wrap64 (x27_1 + 1)) t399)) else (none)) else (none)) = some (r1, r2) := by first | (rw [hji20] at H; exact H) | (simp only [hji20] at H ⊢; exact H)
        (try rw [hji20] at A13)
        have hji20w : (IntKind.i64.wrap (x27_1 - 1)) = ji20 := (i64_w _).trans hji20
        by_cases c21 : 0 ≤ (ji20)
        ·rw [if_pos c21] at H
         have c21b0 : decide (0 ≤ (ji20)) = true := decide_eq_true c21
         clear c21
         by_cases c22 : (ji20) < (t390.length : Int)
         ·rw [if_pos c22] at H
          have c22b0 : decide ((ji20) < (t390.length : Int)) = true := decide_eq_true c22
          clear c22
          replace H := Option.bind_eq_some_iff.mp H
          obtain ⟨t405, A230, H⟩ := H
          replace H : (dict_Put.l0 k1 l0 t390 t405 t390 (t390.length : Int) (wrap64 (x27_1 + 1)) t399) = some (r1, r2) := H
          have A23 := Aside0.mk A230
          clear A230
          have H' := Aside0.mk H
          clear H
          have p398 : 0 ≤ (x27_1 : Int) := OD
          have q398 : x27_1 < (t390.length : Int) := OD
          obtain ⟨ad398, e398, hx398_0⟩ := Kd.at_int (Kd.R_reads' HO_25.out).2.2 x27_1 p398 q398
          cases e398
          replace p398 := eq_true p398
          replace q398 := eq_true q398
          go_wp2_with (first | (at_mapUpdate; refine mp_put.wp (w0 := w) rfl (.tmp 32) (.tmp 33) (.tmp 35) rfl g394 x395000_1 (rd t390 x27_1) (IntKind.u64.wrap (x27_1)) t399 rfl rfl rfl  ?side1 ?side2 A13.out ?_; (case side1 => repeat (first | (with_reducible first | exact HI394.out | apply IsS102.alloc | apply IsS102.drewN | apply IsS102.drew | apply IsS102.set_0) | exact HI394.out)); (case side2 => repeat (first | (with_reducible first | exact HB.out | apply below_alloc | apply pw_below_drewN | apply below_drew1 | refine below_set ?_ (IsS102.ge HI394.out)) | exact HB.out)); rintro e w24 ⟨rfl, hi, hb, hk⟩; refine ⟨_, rfl, ?_⟩; have n0_ := Aside0.mk (Kd.R_mono (Kd.R_keep (IsS102.apart (show IsS102 w _ g394 x395000_1 from by repeat (first | (with_reducible first | exact HI394.out | apply IsS102.alloc | apply IsS102.drewN | apply IsS102.drew | apply IsS102.set_0) | exact HI394.out)) (RU HO_4.out) (by decide)) hk (fun _ h => h.2)) (fun _ h => h.1)); have n1_ := Aside0.mk (Kd.R_mono (Kd.R_keep (IsS102.apart (show IsS102 w _ g394 x395000_1 from by repeat (first | (with_reducible first | exact HI394.out | apply IsS102.alloc | apply IsS102.drewN | apply IsS102.drew | apply IsS102.set_0) | exact HI394.out)) (RU HO_6.out) (by decide)) hk (fun _ h => h.2)) (fun _ h => h.1)); have n2_ := Aside0.mk (Kd.R_mono (Kd.R_keep (IsS102.apart (show IsS102 w _ g394 x395000_1 from by repeat (first | (with_reducible first | exact HI394.out | apply IsS102.alloc | apply IsS102.drewN | apply IsS102.drew | apply IsS102.set_0) | exact HI394.out)) (RU HO_25.out) (by decide)) hk (fun _ h => h.2)) (fun _ h => h.1)); have n3_ := Aside0.mk (hb); have n4_ := Aside0.mk (hi); clear HO_4 HO_6 HO_25 HB HI394; have HO_4 := n0_; have HO_6 := n1_; have HO_25 := n2_; have HB := n3_; have HI394 := n4_; clear n0_ n1_ n2_ n3_ n4_; (try clear hb); (try clear hb2); (try clear hk); (try clear hi); have p404 : 0 ≤ ((ji20) : Int) := OD; have q404 : (ji20) < (t390.length : Int) := OD; obtain ⟨ad404, e404, hx404_0⟩ := Kd.at_int (Kd.R_reads' HO_4.out).2.2 (ji20) p404 q404; obtain rfl : ad398 = ad404 := (by injection e404); replace p404 := eq_true p404; replace q404 := eq_true q404; obtain ⟨Ao25, co25, eo25⟩ := Kd.R_slice HO_6.out; subst eo25) | ((with_reducible refine gate_callee (f := 39) rfl ?_); refine goesL_ (some 52) rfl rfl Tryz.func39 (by kernel_rfl) rfl #[.slice Ao25 x6_1.length co25, .int .u64 (IntKind.u64.wrap ((IntKind.u64.wrap (wrap64 ((rd t390 x27_1) - (rd t390 (ji20))))) - 1))] rfl (by (try simp only [List.map_toArray, List.map_cons, List.map_nil]); first | done | (simp only [hji20]; rfl) | rfl | (simp only [List.length_drop, List.length_take]; rfl)) ?_; (with_reducible refine (num_PutVar.calls k1 (fun k_ => some k_ = (.slice Ao25 x6_1.length co25 : Value).ownBlock) (.slice Ao25 x6_1.length co25) x6_1 (IntKind.u64.wrap ((IntKind.u64.wrap (wrap64 ((rd t390 x27_1) - (rd t390 (ji20))))) - 1)) t405 w _ ?side1 ?side2 A23.out).mono ?_); (case side1 => repeat (first | (with_reducible first | exact HB.out | apply below_alloc | apply pw_below_drewN | apply below_drew1 | refine below_set ?_ (IsS102.ge HI394.out)) | exact HB.out)); (case side2 => exact Kd.R_tight rfl HO_6.out); rintro e w26 ⟨v406, rfl, ho0, hb, hkp⟩; refine ⟨_, rfl, ?_⟩; have n0_ := Aside0.mk (Kd.R_mono (ok' := fun k_ => True) (Kd.R_keptB ((Kd.R_apart' HO_4.out (Kd.R_typed HO_6.out) (by decide))) hkp (fun k_ hk_ hs_ => (hk_.2) hs_)) (fun k_ hk_ => trivial)); have n1_ := Aside0.mk (Kd.R_mono (ok' := fun k_ => True) (Kd.R_keptB ((Kd.R_apart' HO_25.out (Kd.R_typed HO_6.out) (by decide))) hkp (fun k_ hk_ hs_ => (hk_.2) hs_)) (fun k_ hk_ => trivial)); have n2_ := Aside0.mk (IsS102.kept (by repeat (first | (with_reducible first | exact HI394.out | apply IsS102.alloc | apply IsS102.drewN | apply IsS102.drew | apply IsS102.set_0) | exact HI394.out)) hkp (fun hs_ => (fun e_ => (IsS102.own_ne HI394.out HO_6.out (by decide)) e_) hs_)); have n3_ := Aside0.mk (Kd.R_mono (ok' := fun k_ => True) ho0 (fun k_ hk_ => trivial)); have n4_ := Aside0.mk (hb); clear HO_4 HO_25 HI394 HB HO_6; have HO_4 := n0_; have HO_25 := n1_; have HI394 := n2_; have HO407 := n3_; have HB := n4_; clear n0_ n1_ n2_ n3_ n4_; (try clear hb); (try clear hkp); (try clear ho0)))
          go_roundg k1
          case measure => have := HK1.out; omega
          case rel => exact ⟨(t405), (wrap64 (x27_1 + 1)), (t399), EB, H', ⟨by have := HK1.out; omega⟩, ⟨RU HO_4.out⟩, ⟨RU HO407.out⟩, ⟨RU HO_25.out⟩, ⟨by repeat (first | (with_reducible first | exact HI394.out | apply IsS102.alloc | apply IsS102.drewN | apply IsS102.drew | apply IsS102.set_0) | exact HI394.out)⟩, ⟨by repeat (first | (with_reducible first | exact HB.out | apply below_alloc | apply pw_below_drewN | apply below_drew1 | refine below_set ?_ (IsS102.ge HI394.out)) | exact HB.out)⟩⟩
         ·rw [if_neg c22] at H
          exact absurd H (by simp)
        ·rw [if_neg c21] at H
         exact absurd H (by simp)
      ·rw [if_neg c12] at H
       exact absurd H (by simp)
     ·rw [if_neg c11] at H
      exact absurd H (by simp)
    ·rw [if_neg c10] at H
     have c10b0 : decide (x27_1 < (t390.length : Int)) = false := decide_eq_false c10
     clear c10
     have H' := Aside0.mk H
     clear H
     go_wp2
     go_loopg [9, 56] k1 (fun kq v9 v56 w' => ∃ (x9_2 : List Int) (x56_2 : Int) (x395000_2 : List (Int × Int)), v56 = .int .i64 x56_2 ∧ Aside0 (dict_Put.l1 kq t390 x6_1 x9_2 l0 (l0.length : Int) x56_2 x395000_2 = some (r1, r2)) ∧ Aside0 (kq ≤ k1) ∧ Aside0 (Kd.R (Kd.int .i64) 2 w' w.heap.size (fun _ => True) (.slice Ao8 t390.length co8) t390) ∧ Aside0 (Kd.R (Kd.int .u8) 5 w' w.heap.size (fun _ => True) u6 x6_1) ∧ Aside0 (Kd.R (Kd.int .u64) 66 w' w.heap.size (fun _ => True) v9 x9_2) ∧ Aside0 (IsS102 w w' g394 x395000_2) ∧ Aside0 (Below w.heap.size w w'))
     case atStart => exact ⟨(([] : List Int)), (0), (x395000_1), EB, H', ⟨Nat.le_refl _⟩, ⟨RU HO_4.out⟩, ⟨RU HO_6.out⟩, ⟨by first | exact Kd.R_nil _ _ _ _ _ | exact Kd.N_nil _ _ _ _ _ | exact Kd.V_nil _ _ _ _ _ | exact Kd.Q_nil _ _ _ _ _ | exact Kd.S_nil _ _ _ _ _⟩, ⟨by repeat (first | (with_reducible first | exact HI394.out | apply IsS102.alloc | apply IsS102.drewN | apply IsS102.drew | apply IsS102.set_0) | exact HI394.out)⟩, ⟨by repeat (first | (with_reducible first | exact HB.out | apply below_alloc | apply pw_below_drewN | apply below_drew1 | refine below_set ?_ (IsS102.ge HI394.out)) | exact HB.out)⟩⟩
     case round =>
      clear H'
      try clear c1
      try clear c2
      try clear c2b0
      try clear c2b1
      try clear p2
      try clear c3
      try clear p3
      try clear q3
      try clear hx3
      try clear p4
      try clear q4
      try clear hx4
      try clear c5
      try clear p6
      try clear c7
      try clear c9
      try clear c10
      try clear c10b0
      try clear c11
      try clear c11b0
      try clear c12
      try clear c12b0
      try clear c14
      try clear c14b0
      try clear c14b1
      try clear c21
      try clear c21b0
      try clear c22
      try clear c22b0
      try clear hx398_0
      try clear hx404_0
      try clear p2
      try clear p398
      try clear p404
      try clear q398
      try clear q404
      obtain ⟨x9_2, x56_2, x395000_2, rfl, HA, HK2, HO_4, HO_6, HO_9, HI394, HB⟩ := hrel
      cases gk with
      | zero => exact absurd HA.out (by simp [dict_Put.l1])
      | succ k2 =>
       have H := HA.out
       clear HA
       simp only [dict_Put.l1] at H
       by_cases c27 : x56_2 < (l0.length : Int)
       ·rw [if_pos c27] at H
        have c27b0 : decide (x56_2 < (l0.length : Int)) = true := decide_eq_true c27
        clear c27
        by_cases c28 : 0 ≤ x56_2
        ·rw [if_pos c28] at H
         have c28b0 : decide (0 ≤ x56_2) = true := decide_eq_true c28
         clear c28
         by_cases c29 : x56_2 < (l0.length : Int)
         ·rw [if_pos c29] at H
          have c29b0 : decide (x56_2 < (l0.length : Int)) = true := decide_eq_true c29
          clear c29
          replace H := Option.bind_eq_some_iff.mp H
          obtain ⟨⟨t409, t410⟩, A300, H⟩ := H
          replace H : (if x9_2.length < 17592186044416 then (dict_Put.l1 k2 t390 x6_1 (x9_2 ++ [t409]) l0 (l0.length : Int) (wrap64 (x56_2 + 1)) t410) else (none)) = some (r1, r2) := H
          have A30 := Aside0.mk A300
          clear A300
          by_cases c31 : x9_2.length < 17592186044416
          ·rw [if_pos c31] at H
           have LMc31 := Aside0.mk c31
           clear c31
           obtain ⟨y411, hy411⟩ : ∃ y_ : List Int, y_ = (x9_2 ++ [t409]) := ⟨_, rfl⟩
           replace H : (dict_Put.l1 k2 t390 x6_1 y411 l0 (l0.length : Int) (wrap64 (x56_2 + 1)) t410) = some (r1, r2) := by first | (rw [hy411]; with_reducible exact H) | (have H2_ := (Option.bind_some _ _).symm.trans H; rw [hy411]; with_reducible exact H2_) | (have H2_ := (Option.bind_some _ _).symm.trans H; with_reducible exact H2_) | with_reducible exact H | (rw [hy411]; exact H) | exact H
           have Ny411 := Aside0.mk hy411
           clear hy411
           have H' := Aside0.mk H
           clear H
           have p408 : 0 ≤ (x56_2 : Int) := OD
           have q408 : x56_2 < (l0.length : Int) := OD
           obtain ⟨ad408, e408, hx408_0⟩ := Kd.at_int HR0.out x56_2 p408 q408
           cases e408
           replace hx408_0 := (HB.out.cell (World.block_lt_of_cell? w _ hx408_0)).trans hx408_0
           replace p408 := eq_true p408
           replace q408 := eq_true q408
           go_wp2_with (first | (at_lookup; refine mp_get.wp (w0 := w) rfl (.tmp 61) (.tmp 62) rfl g394 x395000_2 (rd l0 x56_2) t409 t410 rfl rfl  ?side1 ?side2 A30.out ?_; (case side1 => repeat (first | (with_reducible first | exact HI394.out | apply IsS102.alloc | apply IsS102.drewN | apply IsS102.drew | apply IsS102.set_0) | exact HI394.out)); (case side2 => repeat (first | (with_reducible first | exact HB.out | apply below_alloc | apply pw_below_drewN | apply below_drew1 | refine below_set ?_ (IsS102.ge HI394.out)) | exact HB.out)); rintro e w32 ⟨rfl, hi, hb, hk⟩; refine ⟨_, rfl, ?_⟩; have n0_ := Aside0.mk (Kd.R_mono (Kd.R_keep (IsS102.apart (show IsS102 w _ g394 x395000_2 from by repeat (first | (with_reducible first | exact HI394.out | apply IsS102.alloc | apply IsS102.drewN | apply IsS102.drew | apply IsS102.set_0) | exact HI394.out)) (RU HO_4.out) (by decide)) hk (fun _ h => h.2)) (fun _ h => h.1)); have n1_ := Aside0.mk (Kd.R_mono (Kd.R_keep (IsS102.apart (show IsS102 w _ g394 x395000_2 from by repeat (first | (with_reducible first | exact HI394.out | apply IsS102.alloc | apply IsS102.drewN | apply IsS102.drew | apply IsS102.set_0) | exact HI394.out)) (RU HO_6.out) (by decide)) hk (fun _ h => h.2)) (fun _ h => h.1)); have n2_ := Aside0.mk (Kd.R_mono (Kd.R_keep (IsS102.apart (show IsS102 w _ g394 x395000_2 from by repeat (first | (with_reducible first | exact HI394.out | apply IsS102.alloc | apply IsS102.drewN | apply IsS102.drew | apply IsS102.set_0) | exact HI394.out)) (RU HO_9.out) (by decide)) hk (fun _ h => h.2)) (fun _ h => h.1)); have n3_ := Aside0.mk (hb); have n4_ := Aside0.mk (hi); clear HO_4 HO_6 HO_9 HB HI394; have HO_4 := n0_; have HO_6 := n1_; have HO_9 := n2_; have HB := n3_; have HI394 := n4_; clear n0_ n1_ n2_ n3_ n4_; (try clear hb); (try clear hb2); (try clear hk); (try clear hi)) | ((with_reducible refine gate_builtin (b := .append) (xs := #[.tmp 60, .tmp 64]) rfl ?_); at_builtin; refine Kd.R_append (Kd.int .u64) (w0 := w) w.heap.size rfl (.tmp 60) (.tmp 64) 68 66 (.int .u64 0) 8 rfl Tryz.underlying68 info66 rfl (by decide) (by omega) u9 x9_2 t409 [.int .u64 t409] (fun _ => True) (fun _ => False) rfl rfl ?aP (fun _ hk => hk.elim) ?aF ?aO ?aB ?aS ?aL ?_; (case aP => exact rfl); (case aB => exact (by repeat (first | (with_reducible first | exact HB.out | apply below_alloc | apply pw_below_drewN | apply below_drew1 | refine below_set ?_ (IsS102.ge HI394.out)) | exact HB.out))); (case aF => exact (fun _ _ => trivial)); (case aO => exact (RU HO_9.out)); (case aS => exact (below_size (by repeat (first | (with_reducible first | exact HB.out | apply below_alloc | apply pw_below_drewN | apply below_drew1 | refine below_set ?_ (IsS102.ge HI394.out)) | exact HB.out)))); (case aL => have := LMc31.out; omega); intro v412 w33 ho hb hg hat; rw [← Ny411.out] at ho; have n0_ := Aside0.mk (Kd.R_over' (RU HO_4.out) (Kd.R_typed (RU HO_9.out)) (by decide) hg); have n1_ := Aside0.mk (Kd.R_over' (RU HO_6.out) (Kd.R_typed (RU HO_9.out)) (by decide) hg); have n2_ := Aside0.mk (IsS102.grown (by repeat (first | (with_reducible first | exact HI394.out | apply IsS102.alloc | apply IsS102.drewN | apply IsS102.drew | apply IsS102.set_0) | exact HI394.out)) hg (IsS102.own_ne HI394.out HO_9.out (by decide))); have n3_ := Aside0.mk (hb); have n4_ := Aside0.mk (ho); clear HO_4 HO_6 HI394 HB HO_9; have HO_4 := n0_; have HO_6 := n1_; have HI394 := n2_; have HB := n3_; have HO413 := n4_; clear n0_ n1_ n2_ n3_ n4_; clear ho hb hg hat))
           go_roundg k2
           case measure => have := HK1.out; have := HK2.out; omega
           case rel => exact ⟨(y411), (wrap64 (x56_2 + 1)), (t410), EB, H', ⟨by have := HK1.out; have := HK2.out; omega⟩, ⟨RU HO_4.out⟩, ⟨RU HO_6.out⟩, ⟨RU HO413.out⟩, ⟨by repeat (first | (with_reducible first | exact HI394.out | apply IsS102.alloc | apply IsS102.drewN | apply IsS102.drew | apply IsS102.set_0) | exact HI394.out)⟩, ⟨by repeat (first | (with_reducible first | exact HB.out | apply below_alloc | apply pw_below_drewN | apply below_drew1 | refine below_set ?_ (IsS102.ge HI394.out)) | exact HB.out)⟩⟩
          ·rw [if_neg c31] at H
           exact absurd H (by simp)
         ·rw [if_neg c29] at H
          exact absurd H (by simp)
        ·rw [if_neg c28] at H
         exact absurd H (by simp)
       ·rw [if_neg c27] at H
        have c27b0 : decide (x56_2 < (l0.length : Int)) = false := decide_eq_false c27
        clear c27
        replace H := Option.bind_eq_some_iff.mp H
        obtain ⟨t414, A340, H⟩ := H
        replace H : ((bits_Pack.f k2 x9_2 t414).bind fun bt415 => (if x6_1.length < 140737488355328 then ((some (x6_1 ++ [(t414) % 256] : List Int)).bind fun y419 => (if y419.length + bt415.1.length < 140737488355328 then (some ((y419 ++ bt415.1), bt415.2)) else (none))) else (none))) = some (r1, r2) := H
        have A34 := Aside0.mk A340
        clear A340
        replace H := Option.bind_eq_some_iff.mp H
        obtain ⟨⟨t415, t416⟩, A350, H⟩ := H
        replace H : (if x6_1.length < 140737488355328 then ((some (x6_1 ++ [(t414) % 256] : List Int)).bind fun y419 => (if y419.length + t415.length < 140737488355328 then (some ((y419 ++ t415), t416)) else (none))) else (none)) = some (r1, r2) := H
        have A35 := Aside0.mk A350
        clear A350
        by_cases c36 : x6_1.length < 140737488355328
        ·rw [if_pos c36] at H
         have LMc36 := Aside0.mk c36
         clear c36
         obtain ⟨y419, hy419⟩ : ∃ y_ : List Int, y_ = (x6_1 ++ [(t414) % 256]) := ⟨_, rfl⟩
         replace H : (if y419.length + t415.length < 140737488355328 then (some ((y419 ++ t415), t416)) else (none)) = some (r1, r2) := by first | (rw [hy419]; with_reducible exact H) | (have H2_ := (Option.bind_some _ _).symm.trans H; rw [hy419]; with_reducible exact H2_) | (have H2_ := (Option.bind_some _ _).symm.trans H; with_reducible exact H2_) | with_reducible exact H | (rw [hy419]; exact H) | exact H
         have Ny419 := Aside0.mk hy419
         clear hy419
         by_cases c37 : y419.length + t415.length < 140737488355328
         ·rw [if_pos c37] at H
          have LMc37 := Aside0.mk c37
          clear c37
          obtain ⟨y422, hy422⟩ : ∃ y_ : List Int, y_ = (y419 ++ t415) := ⟨_, rfl⟩
          replace H : (some (y422, t416)) = some (r1, r2) := by first | (rw [hy422]; with_reducible exact H) | (have H2_ := (Option.bind_some _ _).symm.trans H; rw [hy422]; with_reducible exact H2_) | (have H2_ := (Option.bind_some _ _).symm.trans H; with_reducible exact H2_) | with_reducible exact H | (rw [hy422]; exact H) | exact H
          have Ny422 := Aside0.mk hy422
          clear hy422
          simp only [Option.some.injEq, Prod.mk.injEq] at H
          obtain ⟨rfl, rfl⟩ := H
          go_wp2_with (first | ((with_reducible refine gate_callee (f := 91) rfl ?_); refine goesL_ (some 69) rfl rfl Tryz.func91 (by kernel_rfl) rfl #[.int .i64 (t390.length : Int)] rfl EA ?_; (with_reducible refine (dict_width.calls (t390.length : Int) t414 _ A34.out).mono ?_); rintro e w38 ⟨rfl, hb⟩; refine ⟨_, rfl, ?_⟩; have n0_ := Aside0.mk (Kd.R_below (RU HO_4.out) hb); have n1_ := Aside0.mk (Kd.R_below (RU HO_6.out) hb); have n2_ := Aside0.mk (Kd.R_below (RU HO_9.out) hb); have n3_ := Aside0.mk (IsS102.below (by repeat (first | (with_reducible first | exact HI394.out | apply IsS102.alloc | apply IsS102.drewN | apply IsS102.drew | apply IsS102.set_0) | exact HI394.out)) hb); have n4_ := Aside0.mk (below_step (by repeat (first | (with_reducible first | exact HB.out | apply below_alloc | apply pw_below_drewN | apply below_drew1 | refine below_set ?_ (IsS102.ge HI394.out)) | exact HB.out)) hb); clear HO_4 HO_6 HO_9 HI394 HB; have HO_4 := n0_; have HO_6 := n1_; have HO_9 := n2_; have HI394 := n3_; have HB := n4_; clear n0_ n1_ n2_ n3_ n4_; (try clear hb); (try clear hb2); (try clear hk); (try clear hi); obtain ⟨Ao39, co39, eo39⟩ := Kd.R_slice HO_9.out; subst eo39) | ((with_reducible refine gate_callee (f := 43) rfl ?_); refine goesL_ (some 73) rfl rfl Tryz.func43 (by kernel_rfl) rfl #[.slice Ao39 x9_2.length co39, .int .i64 t414] rfl EA ?_; (with_reducible refine (bits_Pack.calls k2 _ _ x9_2 t414 t415 t416 _ ?side1 ?side2 A35.out).mono ?_); (case side1 => exact CU ((Kd.R_reads' HO_9.out).2.2)); (case side2 => exact (Kd.R_reads' HO_9.out).2.1); rintro e w40 ⟨v417, rfl, ho0, hb⟩; refine ⟨_, rfl, ?_⟩; have n0_ := Aside0.mk (Kd.R_below (RU HO_4.out) hb); have n1_ := Aside0.mk (Kd.R_elder' (RU HO_6.out) (Kd.R_base ho0) hb); have n2_ := Aside0.mk (Kd.R_below (RU HO_9.out) hb); have n3_ := Aside0.mk (Kd.R_lower (Kd.R_new' ho0 (Kd.R_lt (RU HO_6.out))) (below_size (by repeat (first | (with_reducible first | exact HB.out | apply below_alloc | apply pw_below_drewN | apply below_drew1 | refine below_set ?_ (IsS102.ge HI394.out)) | exact HB.out)))); have n4_ := Aside0.mk (IsS102.below (by repeat (first | (with_reducible first | exact HI394.out | apply IsS102.alloc | apply IsS102.drewN | apply IsS102.drew | apply IsS102.set_0) | exact HI394.out)) hb); have n5_ := Aside0.mk (below_step (by repeat (first | (with_reducible first | exact HB.out | apply below_alloc | apply pw_below_drewN | apply below_drew1 | refine below_set ?_ (IsS102.ge HI394.out)) | exact HB.out)) hb); clear HO_4 HO_6 HO_9 HI394 HB; have HO_4 := n0_; have HO_6 := n1_; have HO_9 := n2_; have HO418 := n3_; have HI394 := n4_; have HB := n5_; clear n0_ n1_ n2_ n3_ n4_ n5_; (try clear hb); (try clear hb2); (try clear hk); (try clear hi); (try clear ho0)) | ((with_reducible refine gate_builtin (b := .append) (xs := #[.tmp 76, .tmp 79]) rfl ?_); at_builtin; refine Kd.R_append (Kd.int .u8) (w0 := w) w.heap.size rfl (.tmp 76) (.tmp 79) 25 5 (.int .u8 0) 1 rfl Tryz.underlying25 info5 rfl (by decide) (by omega) u6 x6_1 ((t414) % 256) [.int .u8 ((t414) % 256)] (fun k_ => some k_ ≠ (v417 : Value).ownBlock) (fun _ => False) rfl rfl ?aP (fun _ hk => hk.elim) ?aF ?aO ?aB ?aS ?aL ?_; (case aP => exact rfl); (case aB => exact (by repeat (first | (with_reducible first | exact HB.out | apply below_alloc | apply pw_below_drewN | apply below_drew1 | refine below_set ?_ (IsS102.ge HI394.out)) | exact HB.out))); (case aF => exact (fun k_ hk => Kd.fresh' (Kd.R_lt (RU HO418.out)) k_ hk)); (case aO => exact (RU (Kd.R_mono HO_6.out (fun _ hk => hk.2)))); (case aS => exact (below_size (by repeat (first | (with_reducible first | exact HB.out | apply below_alloc | apply pw_below_drewN | apply below_drew1 | refine below_set ?_ (IsS102.ge HI394.out)) | exact HB.out)))); (case aL => have := LMc36.out; omega); intro v420 w41 ho hb hg hat; rw [← Ny419.out] at ho; have n0_ := Aside0.mk (Kd.R_over' (RU HO_4.out) (Kd.R_typed (RU HO_6.out)) (by decide) hg); have n1_ := Aside0.mk (Kd.R_over' (RU HO_9.out) (Kd.R_typed (RU HO_6.out)) (by decide) hg); have n2_ := Aside0.mk (IsS102.grown (by repeat (first | (with_reducible first | exact HI394.out | apply IsS102.alloc | apply IsS102.drewN | apply IsS102.drew | apply IsS102.set_0) | exact HI394.out)) hg (IsS102.own_ne HI394.out HO_6.out (by decide))); have n3_ := Aside0.mk (Kd.R_after (ok := (fun _ => True)) (RU HO418.out) hg hat); have n4_ := Aside0.mk (hb); have n5_ := Aside0.mk (ho); clear HO_4 HO_9 HI394 HO418 HB HO_6; have HO_4 := n0_; have HO_9 := n1_; have HI394 := n2_; have HO418 := n3_; have HB := n4_; have HO421 := n5_; clear n0_ n1_ n2_ n3_ n4_ n5_; clear ho hb hg hat; obtain ⟨Ao43, co43, eo43⟩ := Kd.R_slice HO418.out; subst eo43) | ((with_reducible refine gate_builtin (b := .append) (xs := #[.tmp 80, .tmp 81]) rfl ?_); at_builtin; refine Kd.R_append_rows (Kd.int .u8) (w0 := w) w.heap.size rfl (.tmp 80) (.tmp 81) 25 5 (.int .u8 0) 1 rfl Tryz.underlying25 info5 rfl (by decide) (by omega) v420 y419 t415 _ _ _ (fun k_ => some k_ ≠ (.slice Ao43 t415.length co43 : Value).ownBlock) (fun _ => False) rfl rfl ?aO ?aR (fun _ _ h => h) (fun _ h => h.elim) ?aF ?aB ?aS ?aL ?_; (case aR => exact CU ((Kd.R_reads' HO418.out).2.2)); (case aB => exact (by repeat (first | (with_reducible first | exact HB.out | apply below_alloc | apply pw_below_drewN | apply below_drew1 | refine below_set ?_ (IsS102.ge HI394.out)) | exact HB.out))); (case aF => exact (fun k_ hk => Kd.fresh' (Kd.R_lt (RU HO418.out)) k_ hk)); (case aO => exact (RU HO421.out)); (case aS => exact (below_size (by repeat (first | (with_reducible first | exact HB.out | apply below_alloc | apply pw_below_drewN | apply below_drew1 | refine below_set ?_ (IsS102.ge HI394.out)) | exact HB.out)))); (case aL => have := LMc37.out; omega); intro v423 w42 ho hb hg hat; rw [← Ny422.out] at ho; have n0_ := Aside0.mk (Kd.R_over' (RU HO_4.out) (Kd.R_typed (RU HO421.out)) (by decide) hg); have n1_ := Aside0.mk (Kd.R_over' (RU HO_9.out) (Kd.R_typed (RU HO421.out)) (by decide) hg); have n2_ := Aside0.mk (IsS102.grown (by repeat (first | (with_reducible first | exact HI394.out | apply IsS102.alloc | apply IsS102.drewN | apply IsS102.drew | apply IsS102.set_0) | exact HI394.out)) hg (IsS102.own_ne HI394.out HO421.out (by decide))); have n3_ := Aside0.mk (Kd.R_after (ok := (fun _ => True)) (RU HO418.out) hg hat); have n4_ := Aside0.mk (hb); have n5_ := Aside0.mk (ho); clear HO_4 HO_9 HI394 HO418 HB HO421; have HO_4 := n0_; have HO_9 := n1_; have HI394 := n2_; have HO418 := n3_; have HB := n4_; have HO424 := n5_; clear n0_ n1_ n2_ n3_ n4_ n5_; clear ho hb hg hat))
          go_ret2
          exact ⟨_, by first | rfl | (simp [errW_none, errW_some] <;> rfl) | (simp [*, errW_none, errW_some] <;> rfl), RU (Kd.R_mono HO424.out (fun _ hk => trivial)), by repeat (first | (with_reducible first | exact HB.out | apply below_alloc | apply pw_below_drewN | apply below_drew1 | refine below_set ?_ (IsS102.ge HI394.out)) | exact HB.out)⟩
         ·rw [if_neg c37] at H
          exact absurd H (by simp)
        ·rw [if_neg c36] at H
         exact absurd H (by simp)

/-! ### dict_list: function 92 -/
end Go.Proofs.YtefcchpjbojdkaaGreatDoor.PChunkPuts
