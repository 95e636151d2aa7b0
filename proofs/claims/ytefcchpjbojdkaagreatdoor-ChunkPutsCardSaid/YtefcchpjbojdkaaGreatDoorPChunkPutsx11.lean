/- WRITTEN BY A PROGRAM of this session (wip/tool: a turned copy of the printer), out of the translation: Lean functions with the answers of the Go functions, and the proofs that the Go code comes to them. -/
import Derived.Test.YtefcchpjbojdkaaGreatDoorPChunkPutsx0
import Derived.Test.YtefcchpjbojdkaaGreatDoorPChunkPutsx5
import Derived.Test.YtefcchpjbojdkaaGreatDoorPChunkPutsx8
import Derived.Test.YtefcchpjbojdkaaGreatDoorPChunkPutsx3
import Derived.Test.YtefcchpjbojdkaaGreatDoorPChunkPutsx6
namespace Go.Proofs.YtefcchpjbojdkaaGreatDoor.PChunkPuts
open Go.RowKit Go.Proofs.YtefcchpjbojdkaaGreatDoorW.PrintWords Go.Proofs.YtefcchpjbojdkaaGreatDoorW.PrintLast Go.Proofs.YtefcchpjbojdkaaGreatDoorW.PrintMore
attribute [local go_sem] max2_int min2_int max_two min_two max_three min_three max_four min_four   -- for this text's walks alone
set_option linter.unusedVariables false
set_option linter.unusedSimpArgs false

/-! ### num_Reader_Fix: function 93 -/
end Go.Proofs.YtefcchpjbojdkaaGreatDoor.PChunkPuts
namespace Go.Proofs.YtefcchpjbojdkaaGreatDoor.PChunkPuts
open Go.RowKit Go.Proofs.YtefcchpjbojdkaaGreatDoorW.PrintWords Go.Proofs.YtefcchpjbojdkaaGreatDoorW.PrintLast Go.Proofs.YtefcchpjbojdkaaGreatDoorW.PrintMore
attribute [local go_sem] max2_int min2_int max_two min_two max_three min_three max_four min_four   -- for this text's walks alone
set_option linter.unusedVariables false
set_option linter.unusedSimpArgs false

/-! ### bits_Unpack: function 95 -/
end Go.Proofs.YtefcchpjbojdkaaGreatDoor.PChunkPuts
namespace Go.Proofs.YtefcchpjbojdkaaGreatDoor.PChunkPuts
open Go.RowKit Go.Proofs.YtefcchpjbojdkaaGreatDoorW.PrintWords Go.Proofs.YtefcchpjbojdkaaGreatDoorW.PrintLast Go.Proofs.YtefcchpjbojdkaaGreatDoorW.PrintMore
attribute [local go_sem] max2_int min2_int max_two min_two max_three min_three max_four min_four   -- for this text's walks alone
set_option linter.unusedVariables false
set_option linter.unusedSimpArgs false

/-! ### delta_Sums: function 89 -/
def slices_Clone_int64_int64.f (l0 : List Int) : Option (List Int) := if l0.length * 8 ≤ 140737488355328 then some l0 else none
theorem slices_Clone_int64_int64.info : (Tryz.prog.info? 2).map (fun i => (i.zero, i.size, i.bytes)) = some (some (.int .i64 0), 1, 8) := by kernel_rfl
theorem slices_Clone_int64_int64.under : Tryz.prog.underlying 41 = some (.slice 2) := by kernel_rfl
set_option maxHeartbeats 4000000 in
theorem slices_Clone_int64_int64.calls (A0 : Option Addr) (c0 : Nat) (l0 : List Int) (r : List Int) (w : World) (hr0 : (Kd.int .i64).C w A0 l0.length l0) (hc0 : l0.length ≤ c0) (h : slices_Clone_int64_int64.f l0 = some r) :
  Calls Tryz.prog 113 #[.slice A0 l0.length c0] w fun e w' => ∃ v0_ : Value, e = .returned v0_ ∧ (Kd.int .i64).R 2 w' w.heap.size (fun _ => True) v0_ r ∧ Below w.heap.size w w' := by
 unfold slices_Clone_int64_int64.f at h
 by_cases hl : l0.length * 8 ≤ 140737488355328
 ·rw [if_pos hl] at h
  obtain rfl := Option.some.inj h
  cases A0 with
  | none =>
   have h0 : l0 = [] := by
    rcases l0 with _ | ⟨x, l⟩
    ·rfl
    ·obtain ⟨ad, e, _⟩ := hr0.2.2 (by simp)
     cases e
   subst h0
   have e1 : ∀ w, (binOp BinOp.eql 41 (.slice none ([] : List Int).length c0) (.slice none 0 0)).run Tryz.prog w = .ok (.bool true) w := fun w => by kernel_rfl
   simp only [List.length_nil] at e1 ⊢
   go_enter Tryz.func113, Tryz.ntmps113
   go_wp2
   go_ret
   exact ⟨_, rfl, Kd.R_nil _ _ _ _ _, Below.refl _ _⟩
  | some ad =>
   have e1 : ∀ w, (binOp BinOp.eql 41 (.slice (some ad) l0.length c0) (.slice none 0 0)).run Tryz.prog w = .ok (.bool false) w := fun w => by kernel_rfl
   have hB1 : Below w.heap.size w (w.alloc (.cells #[] 2)) := below_alloc (Below.refl _ _) _
   have hR1 : (Kd.int .i64).R 2 (w.alloc (.cells #[] 2)) w.heap.size (fun _ => True) (.slice (some ⟨w.heap.size, 0, none⟩) 0 0) [] :=
    Kd.R_of_own (h1 := fun _ => rfl) (by simpa [encs] using World.ownsRow_lit (base := w.heap.size) (e := 2) (size := 1) w #[] 0 (Nat.le_refl _) (by decide) (by simp)) (fun _ _ => trivial)
   have hC1 := Kd.C_below hr0 hB1
   go_enter Tryz.func113, Tryz.ntmps113
   go_wp2_with ((with_reducible refine gate_builtin (b := .append) (xs := #[.tmp 5, .tmp 6]) rfl ?_); at_builtin; refine Kd.R_append_rows (Kd.int .i64) (w0 := w) w.heap.size rfl (.tmp 5) (.tmp 6) 41 2 (.int .i64 0) 8 rfl slices_Clone_int64_int64.under slices_Clone_int64_int64.info rfl (by decide) (by omega) _ [] l0 _ _ _ (fun _ => True) (fun _ => False) rfl rfl hR1 hC1 (fun _ _ h => h) (fun _ h => h.elim) (fun _ _ => trivial) hB1 (by simp) (by simpa using hl) ?_; intro v1 w1 ho hb hg hat)
   go_ret
   exact ⟨_, rfl, by simpa using ho, hb⟩
 ·rw [if_neg hl] at h; cases h

/-! ### dict_List: function 90 -/
def dict_List.f (l0 : List Int) : Option (List Int) := if l0.length * 8 ≤ 140737488355328 then some (Go.Lib.compact (l0.mergeSort fun x y => decide (x ≤ y))) else none
theorem dict_List.grow_below (w : World) (os : Array Obj) : Below w.heap.size w (Go.Sort.grow w os) := ⟨rfl, rfl, rfl, by simp, fun k hk => Go.Sort.heap_grow_old w os hk⟩
/-- What the three calls leave, outside the walk. -/
theorem dict_List.left {w w1 : World} {g cap nn q : Nat} {os : Array Obj} {ss : List Int} (hR : (Kd.int .i64).R 2 w1 w.heap.size (fun _ => True) (.slice (some ⟨g, 0, none⟩) ss.length cap) ss) (hbel : Below w.heap.size w w1) (hbg : w.heap.size ≤ g) (hgl : g < w1.heap.size) :
  (Kd.int .i64).R 2 (Go.Sort.putRow (Value.int .i64) (Go.Sort.ahead (Go.Sort.grow (Go.Sort.putRow (Value.int .i64) (Go.Sort.ahead w1 nn) g 0 (ss.mergeSort fun x y => decide (x ≤ y)).toArray) os) q) g 0 (Go.Lib.compact (ss.mergeSort fun x y => decide (x ≤ y)) ++ List.replicate (ss.length - (Go.Lib.compact (ss.mergeSort fun x y => decide (x ≤ y))).length) 0).toArray) w.heap.size (fun _ => True) (.slice (some ⟨g, 0, none⟩) (Go.Lib.compact (ss.mergeSort fun x y => decide (x ≤ y))).length cap) (Go.Lib.compact (ss.mergeSort fun x y => decide (x ≤ y))) ∧
  Below w.heap.size w (Go.Sort.putRow (Value.int .i64) (Go.Sort.ahead (Go.Sort.grow (Go.Sort.putRow (Value.int .i64) (Go.Sort.ahead w1 nn) g 0 (ss.mergeSort fun x y => decide (x ≤ y)).toArray) os) q) g 0 (Go.Lib.compact (ss.mergeSort fun x y => decide (x ≤ y)) ++ List.replicate (ss.length - (Go.Lib.compact (ss.mergeSort fun x y => decide (x ≤ y))).length) 0).toArray) := by
 have hl2 : (ss.mergeSort fun x y => decide (x ≤ y)).length = ss.length := List.length_mergeSort ss
 have hle := Go.Lib.compact_length_le (ss.mergeSort fun x y => decide (x ≤ y))
 have hown : w1.ownsRow w.heap.size 2 1 (.slice (some ⟨g, 0, none⟩) ss.length cap) ss.length (ss.map (Value.int .i64)) := Kd.own_of_R hR
 generalize ss.mergeSort (fun x y => decide (x ≤ y)) = ts at *
 have h1 := Go.Lib.ownsRow_putRow (q := nn) (k := ss.length) (ys := ts) hown hl2 (Nat.le_refl _)
 rw [← hl2, List.take_length] at h1
 have hb1 := Go.Lib.below_putRow (enc := Value.int .i64) (q := nn) (d := ts.toArray) hbel hbg
 have h2 := pw_own_below h1 (dict_List.grow_below _ os)
 have hb2 := hb1.trans ((dict_List.grow_below (Go.Sort.putRow (Value.int .i64) (Go.Sort.ahead w1 nn) g 0 ts.toArray) os).mono (by simpa using hbel.size))
 rw [hl2] at h2 hle
 have h3 := Go.Lib.ownsRow_putRow (q := q) (k := (Go.Lib.compact ts).length) (ys := Go.Lib.compact ts ++ List.replicate (ss.length - (Go.Lib.compact ts).length) 0) h2 (by simp; omega) hle
 rw [List.take_left] at h3
 exact ⟨Kd.R_of_own (h1 := fun _ => rfl) h3 (fun _ _ => trivial), Go.Lib.below_putRow hb2 hbg⟩
theorem dict_List.compact_nil (w : World) : Calls Tryz.prog 115 #[.slice none 0 0] w fun e w' => e = .returned (.slice none 0 0) ∧ w' = w := by
 go_enter Tryz.func115, Tryz.ntmps115
 go_wp2
 go_ret
 exact ⟨rfl, rfl⟩
set_option maxHeartbeats 4000000 in
theorem dict_List.calls (A0 : Option Addr) (c0 : Nat) (l0 : List Int) (r : List Int) (w : World) (hr0 : (Kd.int .i64).C w A0 l0.length l0) (hc0 : l0.length ≤ c0) (h : dict_List.f l0 = some r) :
  Calls Tryz.prog 90 #[.slice A0 l0.length c0] w fun e w' => ∃ v0_ : Value, e = .returned v0_ ∧ (Kd.int .i64).R 2 w' w.heap.size (fun _ => True) v0_ r ∧ Below w.heap.size w w' := by
 unfold dict_List.f at h
 by_cases hl : l0.length * 8 ≤ 140737488355328
 case neg => rw [if_neg hl] at h; cases h
 rw [if_pos hl] at h
 obtain rfl := Option.some.inj h
 have hcl := slices_Clone_int64_int64.calls A0 c0 l0 l0 w hr0 hc0 (by unfold slices_Clone_int64_int64.f; rw [if_pos hl])
 clear hr0 h
 go_enter Tryz.func90, Tryz.ntmps90
 go_wp2_with (go_at_call 113; refine hcl.mono ?_; rintro e w1 ⟨v1, rfl, hR, hbel⟩)
 have hown : w1.ownsRow w.heap.size 2 1 v1 l0.length (l0.map (Value.int .i64)) := Kd.own_of_R hR
 by_cases hv : v1 = .slice none 0 0
 ·subst hv
  have h0 : l0 = [] := by
   rcases hown.2 with ⟨_, h0⟩ | ⟨g, cap, cur, e0, _⟩
   ·exact List.eq_nil_of_length_eq_zero h0
   ·cases e0
  subst h0
  go_wp2_with (first | (go_at_call 114; refine (Go.Proofs.Tryz.slices_Sort_int_none none 0 w1).mono ?_; rintro e w2 ⟨rfl, rfl⟩) | (go_at_call 115; refine (dict_List.compact_nil w2).mono ?_; rintro e w3 ⟨rfl, rfl⟩))
  go_ret
  exact ⟨_, rfl, by rw [show Go.Lib.compact (([] : List Int).mergeSort fun x y => decide (x ≤ y)) = [] from by simp [Go.Lib.compact, Go.Lib.compactUpTo]]; exact hR, hbel⟩
 ·obtain ⟨g, cap, rfl, hbg, hgl, hncap, hcm, _, hH⟩ := Go.Lib.holds_of_ownsRow hown hv
  have hlen : l0.length < 4611686018427387904 := by omega
  have hsort := Go.Proofs.Tryz.slices_Sort_int g 0 cap l0 w1 hH hgl hlen
  have hleft : ∀ nn q os, _ := fun nn q os => dict_List.left (nn := nn) (q := q) (os := os) hR hbel hbg hgl
  have hl2 : (l0.mergeSort fun x y => decide (x ≤ y)).length = l0.length := List.length_mergeSort l0
  obtain ⟨ts, hts⟩ : ∃ ts, ts = l0.mergeSort fun x y => decide (x ≤ y) := ⟨_, rfl⟩
  rw [← hts] at hsort hl2
  rw [← hts] at hleft
  have HT := Aside0.mk hts
  clear hts
  have hcomp : ∀ nn os, Calls Tryz.prog 115 #[.slice (some ⟨g, 0, none⟩) l0.length cap] (Go.Sort.grow (Go.Sort.putRow (Value.int .i64) (Go.Sort.ahead w1 nn) g 0 ts.toArray) os) fun e w' => e = .returned (.slice (some ⟨g, 0, none⟩) (Go.Lib.compact ts).length cap) ∧ ∃ q, w' = Go.Sort.putRow (Value.int .i64) (Go.Sort.ahead (Go.Sort.grow (Go.Sort.putRow (Value.int .i64) (Go.Sort.ahead w1 nn) g 0 ts.toArray) os) q) g 0 (Go.Lib.compact ts ++ List.replicate (l0.length - (Go.Lib.compact ts).length) 0).toArray := by
   intro nn os
   have hH2 : Go.Sort.Holds (Value.int .i64) (Go.Sort.grow (Go.Sort.putRow (Value.int .i64) (Go.Sort.ahead w1 nn) g 0 ts.toArray) os) g 0 ts.toArray :=
    Go.Sort.holds_grow _ _ os g 0 _ (by simpa using hgl) (Go.Sort.holds_putRow _ _ g 0 _ _ (Go.Sort.holds_ahead _ w1 nn g 0 _ hH) (by simp [hl2]))
   have := Go.Proofs.Tryz.slices_Compact_f115 (Value.int .i64) (fun _ => rfl) (EqlAt.intD _ _ .i64) (NeqAt.intD _ _ .i64) 0 (fun w => by kernel_rfl) g 0 cap ts.toArray _ hH2 (by simp; omega) (by simp; omega)
   rw [List.size_toArray, hl2] at this
   have e1 : Go.Lib.compactUpTo ts.toArray l0.length = Go.Lib.compact ts := by unfold Go.Lib.compact; rw [hl2]
   rw [e1] at this
   exact this
  have HL := Aside0.mk hleft
  clear hleft hH hR hown hbel hcl
  go_wp2_with (first | (go_at_call 114; refine hsort.mono ?_; rintro e w2 ⟨rfl, nn, os, rfl⟩) | (go_at_call 115; refine (hcomp nn os).mono ?_; rintro e w3 ⟨rfl, q, rfl⟩))
  go_ret
  exact ⟨_, rfl, by rw [← HT.out]; exact (HL.out nn q os).1, (HL.out nn q os).2⟩

/-! ### dict_width: function 91 -/
def dict_width.f (a0 : Int) : Option (Int) := (bits_Len.f (IntKind.u64.wrap (mx (wrap64 (a0 - 1)) 0))).bind fun t389 => (some t389)
set_option maxHeartbeats 8000000 in
set_option maxRecDepth 100000 in
theorem dict_width.calls (a0 : Int) (r : Int) (w : World) (h : dict_width.f a0 = some r) :
  Calls Tryz.prog 91 #[.int .i64 a0] w fun e w' => e = .returned (.int .i64 r) ∧ Below w.heap.size w w' := by
 have HB := Aside0.mk (Below.refl w.heap.size w)
 have H : ((bits_Len.f (IntKind.u64.wrap (mx (wrap64 (a0 - 1)) 0))).bind fun t389 => (some t389)) = some r := h
 clear h
 obtain ⟨ji2, hji2⟩ : ∃ j_ : Int, (mx (wrap64 (a0 - 1)) 0) = j_ := ⟨_, rfl⟩
 replace H : ((bits_Len.f (IntKind.u64.wrap (ji2))).bind fun t389 => (some t389)) = some r := by first | (rw [hji2] at H; exact H) | (simp only [hji2] at H ⊢; exact H)
 (try (have hji2l : 0 ≤ ji2 := by (rw [← hji2]; unfold mx; (repeat' split) <;> omega)))
 (try (have hji2m : 0 ≤ ji2 := by omega))
 have hji2_ : (if (wrap64 (a0 - 1)) < 0 then 0 else (wrap64 (a0 - 1))) = ji2 := hji2
 replace H := Option.bind_eq_some_iff.mp H
 obtain ⟨t389, A30, H⟩ := H
 replace H : (some t389) = some r := H
 have A3 := Aside0.mk A30
 clear A30
 obtain rfl := Option.some.inj H
 go_enter Tryz.func91, Tryz.ntmps91
 go_wp2_with (first | ((with_reducible refine gate_callee (f := 75) rfl ?_); refine goesL_ (some 7) rfl rfl Tryz.func75 (by kernel_rfl) rfl #[.int .u64 (IntKind.u64.wrap (ji2))] rfl (by (try simp only [List.map_toArray, List.map_cons, List.map_nil]); first | done | (simp only [hji2]; rfl) | rfl | (simp only [List.length_drop, List.length_take]; rfl)) ?_; (with_reducible refine (bits_Len.calls (IntKind.u64.wrap (ji2)) t389 _ A3.out).mono ?_); rintro e w' ⟨rfl, ⟨nd, rfl⟩⟩; refine ⟨_, rfl, ?_⟩))
 go_ret
 exact ⟨by first | rfl | (simp [errW_none, errW_some] <;> rfl) | (simp only [← hji2]; first | rfl | (simp [errW_none, errW_some] <;> rfl)) | (simp [*, errW_none, errW_some] <;> rfl), BU HB.out⟩

end Go.Proofs.YtefcchpjbojdkaaGreatDoor.PChunkPuts
