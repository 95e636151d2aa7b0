/- WRITTEN BY A PROGRAM of this session (wip/tool: a turned copy of the printer), out of the translation: Lean functions with the answers of the Go functions, and the proofs that the Go code comes to them. -/
import Derived.Test.YtefcchpjbojdkaaGreatDoorPChunkPutsx0
import Derived.Test.YtefcchpjbojdkaaGreatDoorPChunkPutsx5
namespace Go.Proofs.YtefcchpjbojdkaaGreatDoor.PChunkPuts
open Go.RowKit Go.Proofs.YtefcchpjbojdkaaGreatDoorW.PrintWords Go.Proofs.YtefcchpjbojdkaaGreatDoorW.PrintLast Go.Proofs.YtefcchpjbojdkaaGreatDoorW.PrintMore
attribute [local go_sem] max2_int min2_int max_two min_two max_three min_three max_four min_four   -- for this text's walks alone
set_option linter.unusedVariables false
set_option linter.unusedSimpArgs false

/-! ### num_Reader_Err: function 81 -/
section
open Go.Extern.Stop Go.Stop Go.Extern
/-! ### CLOSED FACTS ON THE MODEL's ENTRIES FOR internal/reflectlite, at this program's types: 25: *p.E · 27: **p.E · 23: error · 45: reflectlite's rtype · 1: how many package-level variables the dump has -/
/-! ### THE ENTRIES THAT READ OR WRITE MEMORY: laws with a premise on the cell (after Derived/Lib/ReflectliteSlice.lean's manner: each unfolding a lemma of its own, by rfl) -/
end
section
open Go.Shelf
attribute [local go_sem] Oper.semAt_some
/-- the runs of numbers: a number, and how often -/
def runsOf : List Int → List (Int × Nat)
 | [] => []
 | x :: l => match runsOf l with
  | [] => [(x, 1)]
  | (y, k) :: r => if x = y then (y, k + 1) :: r else (x, 1) :: (y, k) :: r
theorem runsOf_cons_ne (x y : Int) (l : List Int) (h : x ≠ y) : runsOf (x :: y :: l) = (x, 1) :: runsOf (y :: l) := by
 have hne : ∃ k r, runsOf (y :: l) = (y, k) :: r := by
  unfold runsOf
  split
  ·exact ⟨_, _, rfl⟩
  ·rename_i z k r he
   by_cases e : y = z
   ·rw [if_pos e]; subst e; exact ⟨_, _, rfl⟩
   ·rw [if_neg e]; exact ⟨_, _, rfl⟩
 obtain ⟨k, r, he⟩ := hne
 rw [runsOf, he]
 simp only [if_neg h]
/-- a run: what stands at its head, how long it is, what follows -/
theorem runsOf_run (x : Int) (l : List Int) (h : ∀ y r, l = y :: r → y ≠ x) : ∀ k : Nat, runsOf (List.replicate (k + 1) x ++ l) = (x, k + 1) :: runsOf l := by
 intro k
 induction k with
 | zero =>
  cases l with
  | nil => rfl
  | cons y r => exact runsOf_cons_ne x y r (fun e => h y r rfl e.symm)
 | succ k ih =>
  rw [List.replicate_succ, List.cons_append, runsOf, ih]
  simp only [if_true]
theorem runsOf_at (zs : List Int) (a b : Nat) (hab : a < b) (hb : b ≤ zs.length) (hall : ∀ j, a ≤ j → j < b → zs[j]?.getD 0 = zs[a]?.getD 0) (hend : b < zs.length → zs[b]?.getD 0 ≠ zs[a]?.getD 0) :
  runsOf (zs.drop a) = (zs[a]?.getD 0, b - a) :: runsOf (zs.drop b) := by
 have e : zs.drop a = List.replicate (b - a - 1 + 1) (zs[a]?.getD 0) ++ zs.drop b := by
  apply List.ext_getElem
  ·simp; omega
  ·intro i h1 h2
   simp only [List.getElem_drop]
   by_cases hi : i < b - a
   ·rw [List.getElem_append_left (by simp; omega), List.getElem_replicate]
    have := hall (a + i) (by omega) (by omega)
    simp only [List.length_drop] at h1
    rw [List.getElem?_eq_getElem (by omega)] at this
    exact this
   ·rw [List.getElem_append_right (by simp; omega), List.getElem_drop]
    congr 1
    simp; omega
 have e2 : b - a - 1 + 1 = b - a := by omega
 rw [e, runsOf_run _ _ _, e2]
 intro y r he hy
 have hlt : b < zs.length := by
  refine Classical.byContradiction fun hc => ?_
  rw [List.drop_of_length_le (by omega)] at he; cases he
 rw [List.drop_eq_getElem_cons hlt] at he
 injection he with h1 _
 refine hend hlt ?_
 rw [List.getElem?_eq_getElem hlt]
 show zs[b] = _
 rw [h1, hy]
theorem runsOf_length : ∀ l : List Int, (runsOf l).length ≤ l.length := by
 intro l
 induction l with
 | nil => exact Nat.le_refl _
 | cons x l ih =>
  rw [runsOf]
  split
  ·simp
  ·rename_i y k r he
   rw [he] at ih
   by_cases h : x = y
   ·rw [if_pos h]; simp only [List.length_cons] at ih ⊢; omega
   ·rw [if_neg h]; simp only [List.length_cons] at ih ⊢; omega
theorem grown_drewN_ (W : World) (n : Nat) : W.grownBy (W.drewN n) none := ⟨rfl, rfl, rfl, Nat.le_refl _, fun _ _ _ => rfl⟩
/-- below n₀ no block but B₀ has turned -/
def Same (n₀ B₀ : Nat) (W W' : World) : Prop := ∀ k, k < n₀ → k ≠ B₀ → W'.heap[k]? = W.heap[k]?
theorem Same.refl (n₀ B₀ : Nat) (W : World) : Same n₀ B₀ W W := fun _ _ _ => rfl
theorem Same.trans {n₀ B₀ : Nat} {A B C : World} (h : Same n₀ B₀ A B) (k : Same n₀ B₀ B C) : Same n₀ B₀ A C := fun j h1 h2 => (k j h1 h2).trans (h j h1 h2)
theorem Same.drewN {n₀ B₀ : Nat} {A B : World} (h : Same n₀ B₀ A B) (m : Nat) : Same n₀ B₀ A (B.drewN m) := h
theorem Same.cell {n₀ B₀ : Nat} {A B : World} (h : Same n₀ B₀ A B) {b o : Nat} (hb : b < n₀ ∧ b ≠ B₀) : B.cell? ⟨b, o, none⟩ = A.cell? ⟨b, o, none⟩ := by
 unfold World.cell?; simp only [h b hb.1 hb.2]
/-- all from a on, below c, are as the one at a -/
def Likes (zs : List Int) (a c : Nat) : Prop := ∀ j, a ≤ j → j < c → zs[j]?.getD 0 = zs[a]?.getD 0
theorem likes_one (zs : List Int) (a : Nat) : Likes zs a (a + 1) := fun j h1 h2 => by
 have : j = a := by omega
 rw [this]
theorem likes_succ {zs : List Int} {a c : Nat} (h : Likes zs a c) (he : zs[c]?.getD 0 = zs[a]?.getD 0) : Likes zs a (c + 1) := fun j h1 h2 => by
 rcases Nat.lt_succ_iff_lt_or_eq.1 h2 with h3 | h3
 ·exact h j h1 h3
 ·rw [h3]; exact he
set_option maxRecDepth 100000 in
set_option maxHeartbeats 4000000 in
theorem each1_in (q : Int × Nat → Prop) (n : Nat) (hn : 1 ≤ n) (l Bs n₀ B₀ b off cap : Nat) (zs : List Int) (hq : ∀ y ∈ runsOf zs, q y) (hreach : zs.length * 8 ≤ 140737488351232) (hb : b < n₀ ∧ b ≠ B₀) (J Jx : List (Int × Nat) → World → Prop) (W : World) (hJ : AbidesFrom W.heap.size J)
  (hY : ∀ pre x W, q x → J pre W → pre.length < zs.length → YieldAt Fence.wide (n - 1) Tryz.prog l #[.int .i64 x.1, .int .i64 (x.2 : Int)] W fun e W' =>
   (e = .returned (.bool true) ∧ J (pre ++ [x]) W' ∧ Same n₀ B₀ W W') ∨ (e = .returned (.bool false) ∧ Jx (pre ++ [x]) W'))
  (hBs : (Bs < n₀ ∧ Bs ≠ B₀) ∧ W.cell? ⟨Bs, 0, none⟩ = some (.slice (some ⟨b, off, none⟩) zs.length cap)) (hc : ∀ j, j < zs.length → W.cell? ⟨b, off + j, none⟩ = some (.int .i64 (zs[j]?.getD 0))) (h0 : J [] W) :
  CallsIn Fence.wide n Tryz.prog 112 #[.func (.yield l) #[] #[], .pointer (some ⟨Bs, 0, none⟩)] W fun e W' => (∃ v, e = .returned v) ∧
   ((∃ ys, ys = runsOf zs ∧ J ys W') ∨ (∃ pre, pre <+: runsOf zs ∧ Jx pre W')) := by
 have hJd : ∀ pre W1 m, J pre W1 → J pre (W1.drewN m) := fun pre W1 m h => hJ pre _ _ none h (grown_drewN_ W1 m) (fun r e => by cases e)
 refine callsIn_of_wp Tryz.func112 rfl trivial ?_ rfl
 simp only [Tryz.ntmps112, List.size_toArray, List.length_cons, List.length_nil, Nat.reduceAdd, Nat.reduceSub, Array.replicate_succ, Array.replicate_zero, List.push_toArray, List.append_toArray, List.nil_append, List.cons_append]
 gi_wp2
 gi_loopw [3] (fun i wr => ∃ (a : Nat) (pre : List (Int × Nat)), a ≤ zs.length ∧ i = .int .i64 a ∧ runsOf zs = pre ++ runsOf (zs.drop a) ∧ J pre wr ∧ Same n₀ B₀ W wr)
  (fun i _ => zs.length - (intOf i).toNat)
 case atStart => exact ⟨0, [], Nat.zero_le _, rfl, by simp, h0, Same.refl _ _ _⟩
 case round =>
  obtain ⟨a, pre, ha, rfl, hruns, hJs, hnx⟩ := hrel
  have hBr : wr.cell? ⟨Bs, 0, none⟩ = some (.slice (some ⟨b, off, none⟩) zs.length cap) := (hnx.cell (b := Bs) (o := 0) hBs.1).trans hBs.2
  by_cases hlt : a < zs.length
  ·gi_wp2
   gi_loopw [4] (fun q wq => ∃ (c : Nat), a < c ∧ c ≤ zs.length ∧ q = .int .i64 c ∧ Likes zs a c ∧ J pre wq ∧ Same n₀ B₀ W wq)
    (fun q _ => zs.length - (intOf q).toNat)
   case atStart => exact ⟨a + 1, by omega, by omega, by simp, likes_one zs a, hJs, hnx⟩
   case round =>
    obtain ⟨c, hac, hcl, rfl, hall, hJq, hnq⟩ := hrel
    have hBq : wr.cell? ⟨Bs, 0, none⟩ = some (.slice (some ⟨b, off, none⟩) zs.length cap) := (hnq.cell (b := Bs) (o := 0) hBs.1).trans hBs.2
    have hca : wr.cell? ⟨b, off + a, none⟩ = some (.int .i64 (zs[a]?.getD 0)) := (hnq.cell (b := b) (o := off + a) hb).trans (hc a hlt)
    by_cases hcz : c < zs.length
    ·have hcc : wr.cell? ⟨b, off + c, none⟩ = some (.int .i64 (zs[c]?.getD 0)) := (hnq.cell (b := b) (o := off + c) hb).trans (hc c hcz)
     by_cases heq : zs[c] = zs[a]
     ·have heqb : (zs[c] == zs[a]) = true := by simp [heq]
      have hlk : Likes zs a (c + 1) := likes_succ hall (by rw [List.getElem?_eq_getElem hcz, List.getElem?_eq_getElem hlt]; exact heq)
      clear heq
      gi_wp2
      refine wpIn_wide.2 ?_
      go_quiet (fail)
      gi_wp2
      exact ⟨⟨c + 1, by omega, by omega, by simp, hlk, hJd _ _ _ hJq, hnq.drewN _⟩, by simp [intOf]; omega⟩
     ·have heqb : (zs[c] == zs[a]) = false := by simp [heq]
      have hrun := runsOf_at zs a c hac hcl hall (fun h => by rw [List.getElem?_eq_getElem hcz, List.getElem?_eq_getElem hlt]; exact heq)
      rw [List.getElem?_eq_getElem hlt] at hrun
      have hrun : runsOf (zs.drop a) = (zs[a], c - a) :: runsOf (zs.drop c) := hrun
      have hpl : pre.length < zs.length := by
       have := runsOf_length zs
       rw [hruns, hrun, List.length_append, List.length_cons] at this; omega
      clear heq
      gi_wp2
      refine wpIn_wide.2 ?_
      go_quiet (fail)
      obtain ⟨fn, tmps, assign, body, hy, hR⟩ := hY pre (zs[a], c - a) (wr.drewN nq) (hq _ (by rw [hruns, hrun]; simp)) (hJd _ _ _ hJq) hpl
      have ecast : ((c - a : Nat) : Int) = (c : Int) - (a : Int) := by omega
      dsimp only at hy
      rw [ecast] at hy
      gi_wp2
      refine hR.mono ?_
      rintro e W3 (⟨rfl, hJ3, hk3⟩ | ⟨rfl, hJx3⟩)
      ·gi_wp2
       go_roundw
       case rel => exact ⟨c, pre ++ [(zs[a], c - a)], by omega, rfl, by rw [List.append_assoc]; rw [hruns, hrun]; rfl, hJ3, (hnq.drewN _).trans hk3⟩
       case measure => simp [intOf]; omega
      ·gi_wp2
       refine bodyPost_ret (results_none rfl _ _ _) rfl ?_
       exact ⟨⟨_, rfl⟩, .inr ⟨pre ++ [(zs[a], c - a)], ⟨_, by rw [hruns, hrun, List.append_assoc]; rfl⟩, hJx3⟩⟩
    ·obtain rfl : c = zs.length := by omega
     have hrun := runsOf_at zs a zs.length hac hcl hall (fun h => absurd h (by omega))
     rw [List.getElem?_eq_getElem hlt] at hrun
     have hrun : runsOf (zs.drop a) = (zs[a], zs.length - a) :: runsOf (zs.drop zs.length) := hrun
     have hpl : pre.length < zs.length := by
      have := runsOf_length zs
      rw [hruns, hrun, List.length_append, List.length_cons] at this; omega
     clear hcz
     gi_wp2
     refine wpIn_wide.2 ?_
     go_quiet (fail)
     obtain ⟨fn, tmps, assign, body, hy, hR⟩ := hY pre (zs[a], zs.length - a) (wr.drewN nq) (hq _ (by rw [hruns, hrun]; simp)) (hJd _ _ _ hJq) hpl
     have ecast : ((zs.length - a : Nat) : Int) = (zs.length : Int) - (a : Int) := by omega
     dsimp only at hy
     rw [ecast] at hy
     gi_wp2
     refine hR.mono ?_
     rintro e W3 (⟨rfl, hJ3, hk3⟩ | ⟨rfl, hJx3⟩)
     ·gi_wp2
      go_roundw
      case rel => exact ⟨zs.length, pre ++ [(zs[a], zs.length - a)], by omega, rfl, by rw [List.append_assoc]; rw [hruns, hrun]; rfl, hJ3, (hnq.drewN _).trans hk3⟩
      case measure => simp [intOf]; omega
     ·gi_wp2
      refine bodyPost_ret (results_none rfl _ _ _) rfl ?_
      exact ⟨⟨_, rfl⟩, .inr ⟨pre ++ [(zs[a], zs.length - a)], ⟨_, by rw [hruns, hrun, List.append_assoc]; rfl⟩, hJx3⟩⟩
  ·obtain rfl : a = zs.length := by omega
   gi_wp2
   go_end0
   exact ⟨⟨_, rfl⟩, .inl ⟨_, rfl, by rw [hruns, List.drop_length] at *; simpa [runsOf] using hJs⟩⟩
/-- THE SLICE VALUE sv HOLDS THE numbers zs, in a block below n₀; or it is nil and there are none. -/
def Ints (n₀ B₀ : Nat) (W : World) (sv : Value) (zs : List Int) : Prop :=
 (zs = [] ∧ ∃ A cap, sv = .slice A 0 cap) ∨ ∃ b off cap, sv = .slice (some ⟨b, off, none⟩) zs.length cap ∧ (b < n₀ ∧ b ≠ B₀) ∧ ∀ j, j < zs.length → W.cell? ⟨b, off + j, none⟩ = some (.int .i64 (zs[j]?.getD 0))
theorem Ints.same {n₀ B₀ : Nat} {A B : World} (h : Same n₀ B₀ A B) {sv : Value} {zs : List Int} : Ints n₀ B₀ A sv zs → Ints n₀ B₀ B sv zs
 | .inl e => .inl e
 | .inr ⟨b, off, cap, e, hb, hc⟩ => .inr ⟨b, off, cap, e, hb, fun j hj => (h.cell (b := b) (o := off + j) hb).trans (hc j hj)⟩
set_option maxRecDepth 100000 in
set_option maxHeartbeats 4000000 in
theorem each1_nil_in (n : Nat) (l Bs cap : Nat) (A : Option Addr) (J : List (Int × Nat) → World → Prop) (W : World) (hBs : W.cell? ⟨Bs, 0, none⟩ = some (.slice A 0 cap)) (h0 : J [] W) :
  CallsIn Fence.wide n Tryz.prog 112 #[.func (.yield l) #[] #[], .pointer (some ⟨Bs, 0, none⟩)] W fun e W' => (∃ v, e = .returned v) ∧ J [] W' := by
 refine callsIn_of_wp Tryz.func112 rfl trivial ?_ rfl
 simp only [Tryz.ntmps112, List.size_toArray, List.length_cons, List.length_nil, Nat.reduceAdd, Nat.reduceSub, Array.replicate_succ, Array.replicate_zero, List.push_toArray, List.append_toArray, List.nil_append, List.cons_append]
 gi_wp2
 gi_loopw [3] (fun i wr => i = .int .i64 0 ∧ J [] wr ∧ wr.cell? ⟨Bs, 0, none⟩ = some (.slice A 0 cap)) (fun _ _ => 0)
 case atStart => exact ⟨rfl, h0, hBs⟩
 case round =>
  obtain ⟨rfl, hJs, hB⟩ := hrel
  gi_wp2
  go_end0
  exact ⟨⟨_, rfl⟩, hJs⟩
theorem each_in (n : Nat) (a : Option Addr) (len cap : Nat) (w : World) :
  CallsIn Fence.wide n Tryz.prog 84 #[.slice a len cap] w fun e w' => e = .returned (.func (.func 112) #[] #[.pointer (some ⟨w.heap.size, 0, none⟩)]) ∧ w' = w.alloc (.cells #[.slice a len cap] 41) := by
 refine callsIn_of_wp Tryz.func84 rfl trivial ?_ rfl
 simp only [Tryz.ntmps84, List.size_toArray, List.length_cons, List.length_nil, Nat.reduceAdd, Nat.reduceSub, Array.replicate_succ, Array.replicate_zero, List.push_toArray, List.append_toArray, List.nil_append, List.cons_append]
 gi_wp2
 go_ret
 exact ⟨rfl, rfl⟩
theorem each_stops (q : Int × Nat → Prop) (n : Nat) (hn : 1 ≤ n) (Bs n₀ B₀ : Nat) (sv : Value) (zs : List Int) (hq : ∀ y ∈ runsOf zs, q y) (hreach : zs.length * 8 ≤ 140737488351232) (w : World) (hBs : Bs < w.heap.size) (hBn : Bs < n₀ ∧ Bs ≠ B₀) (hn₀ : n₀ ≤ w.heap.size)
  (hc : w.cell? ⟨Bs, 0, none⟩ = some sv) (hI : Ints n₀ B₀ w sv zs) :
  SeqStopsK Fence.wide n Tryz.prog 112 #[.pointer (some ⟨Bs, 0, none⟩)] (fun x : { x : Int × Nat // q x } => #[Value.int .i64 x.1.1, Value.int .i64 (x.1.2 : Int)]) (Same n₀ B₀) (fun ys => ys.map Subtype.val = runsOf zs) (fun pre => pre.map Subtype.val <+: runsOf zs) zs.length w := fun l J Jx W hW hJ _ hY h0 => by
 have hc' := (hW.cell (p := ⟨Bs, 0, none⟩) hBs).trans hc
 rcases hI.same (fun k hk _ => hW.block k (Nat.lt_of_lt_of_le hk hn₀)) with ⟨rfl, A, cap, rfl⟩ | ⟨b, off, cap, rfl, hb, hcs⟩
 ·exact (each1_nil_in n l Bs cap A (fun _ W' => J [] W') W hc' h0).mono fun e W' ⟨he, hj⟩ => ⟨he, .inl ⟨[], rfl, hj⟩⟩
 ·refine (each1_in q n hn l Bs n₀ B₀ b off cap zs hq hreach hb (fun pre W' => ∃ p : List { x : Int × Nat // q x }, p.map Subtype.val = pre ∧ J p W') (fun pre W' => ∃ p : List { x : Int × Nat // q x }, p.map Subtype.val = pre ∧ Jx p W') W
   (fun s A B row h hg hr => by obtain ⟨p, hp, hj⟩ := h; exact ⟨p, hp, hJ p A B row hj hg hr⟩) ?_ ⟨hBn, hc'⟩ hcs ⟨[], rfl, h0⟩).mono ?_
  ·intro pre x W1 hx hj hl
   obtain ⟨p, hp, hj⟩ := hj
   obtain ⟨fn, tmps, assign, body, hy, hR⟩ := hY p ⟨x, hx⟩ W1 hj (by rw [← hp, List.length_map] at hl; exact hl)
   refine ⟨fn, tmps, assign, body, hy, hR.mono ?_⟩
   rintro e W' (⟨h1, h2, h3⟩ | ⟨h1, h2⟩)
   ·exact .inl ⟨h1, ⟨_, by rw [List.map_append, hp]; rfl, h2⟩, h3⟩
   ·exact .inr ⟨h1, ⟨_, by rw [List.map_append, hp]; rfl, h2⟩⟩
  ·rintro e W' ⟨he, ⟨ys, rfl, p, hp, hj⟩ | ⟨pre, hpre, p, hp, hj⟩⟩
   ·exact ⟨he, .inl ⟨p, hp, hj⟩⟩
   ·exact ⟨he, .inr ⟨p, (show p.map Subtype.val <+: runsOf zs by rw [hp]; exact hpre), hj⟩⟩
theorem rd_zs (zs : List Int) (j : Nat) : rd zs (j : Int) = zs[j]?.getD 0 := by simp [rd, List.getD]
theorem Ints.of_C {w : World} {A : Option Addr} {c : Nat} {zs : List Int} (h : (Kd.int .i64).C w A zs.length zs) (n₀ : Nat) (hn : w.heap.size ≤ n₀) : Ints n₀ n₀ w (.slice A zs.length c) zs := by
 by_cases hz : zs = []
 ·subst hz; exact .inl ⟨rfl, _, _, rfl⟩
 ·have hp : 0 < zs.length := List.length_pos_iff.2 hz
  obtain ⟨ad, rfl, h0⟩ := Kd.at_int h 0 (by omega) (by omega)
  have hb := Go.block_lt_of_cell h0
  have had : ad = ⟨ad.block, ad.off, none⟩ := by
   cases ad with
   | mk b o s =>
    cases s with
    | none => rfl
    | some s => exact absurd h0 (by unfold World.cell? Addr.add; simp; split <;> simp)
  have hbk : ad.block < w.heap.size := by
   have : (ad.add (0 : Int).toNat).block = ad.block := by unfold Addr.add; split <;> rfl
   rw [this] at hb; exact hb
  refine .inr ⟨ad.block, ad.off, c, by rw [← had], ⟨by omega, by omega⟩, fun j hj => ?_⟩
  obtain ⟨ad', e, hj'⟩ := Kd.at_int h (j : Int) (by omega) (by omega)
  cases e
  rw [had] at hj'
  have e2 : (⟨ad.block, ad.off, none⟩ : Addr).add ((j : Int).toNat) = ⟨ad.block, ad.off + j, none⟩ := by
   unfold Addr.add; split
   ·rename_i h0; simp at h0; subst h0; rfl
   ·simp
  rw [e2, rd_zs] at hj'
  exact hj'
end

end Go.Proofs.YtefcchpjbojdkaaGreatDoor.PChunkPuts
