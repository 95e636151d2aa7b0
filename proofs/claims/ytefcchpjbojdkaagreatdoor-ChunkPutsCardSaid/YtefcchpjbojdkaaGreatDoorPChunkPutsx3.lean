/- WRITTEN BY A PROGRAM of this session (wip/tool: a turned copy of the printer), out of the translation: Lean functions with the answers of the Go functions, and the proofs that the Go code comes to them. -/
import Derived.Test.YtefcchpjbojdkaaGreatDoorPChunkPutsx0
import Derived.Test.YtefcchpjbojdkaaGreatDoorPChunkPutsx2
namespace Go.Proofs.YtefcchpjbojdkaaGreatDoor.PChunkPuts
open Go.RowKit Go.Proofs.YtefcchpjbojdkaaGreatDoorW.PrintWords Go.Proofs.YtefcchpjbojdkaaGreatDoorW.PrintLast Go.Proofs.YtefcchpjbojdkaaGreatDoorW.PrintMore
attribute [local go_sem] max2_int min2_int max_two min_two max_three min_three max_four min_four   -- for this text's walks alone
set_option linter.unusedVariables false
set_option linter.unusedSimpArgs false

/-! ### texts_List: function 38 -/
/-- A text as its list of bytes, and back. -/
def texts_List.ls (l : List ByteArray) : List (List UInt8) := l.map (·.data.toList)
def texts_List.bs (l : List (List UInt8)) : List ByteArray := l.map fun s => ⟨s.toArray⟩
def texts_List.srt (l0 : List ByteArray) : List (List UInt8) := (texts_List.ls l0).mergeSort fun x y => decide (x ≤ y)
def texts_List.f (l0 : List ByteArray) : Option (List ByteArray) := if l0.length * 16 ≤ 140737488355328 then some (texts_List.bs (Go.Lib.compact (texts_List.srt l0))) else none
theorem texts_List.ls_enc (l : List ByteArray) : (texts_List.ls l).map encStr = l.map Value.string := Go.Lib.map_encStr l
theorem texts_List.bs_enc (l : List (List UInt8)) : (texts_List.bs l).map Value.string = l.map encStr := by simp [texts_List.bs, encStr, Function.comp_def]
theorem texts_List.eql (P : Program) (T : TypeId) : EqlAt P T encStr (fun x y => decide (x = y)) :=
 ⟨fun x y w => by
  have h := (EqlAt.string P T).1 ⟨x.toArray⟩ ⟨y.toArray⟩ w
  simp only [ByteArray.toList_eq] at h
  exact h.trans (by by_cases e : x = y <;> simp [e]), fun op a b x y w => GuardAt.string P T op a b ⟨x.toArray⟩ ⟨y.toArray⟩ w⟩
theorem texts_List.neq (P : Program) (T : TypeId) : NeqAt P T encStr (fun x y => decide (x = y)) :=
 ⟨fun x y w => by
  have h := (NeqAt.string P T).1 ⟨x.toArray⟩ ⟨y.toArray⟩ w
  simp only [ByteArray.toList_eq] at h
  exact h.trans (by by_cases e : x = y <;> simp [e]), fun op a b x y w => GuardAt.string P T op a b ⟨x.toArray⟩ ⟨y.toArray⟩ w⟩
theorem texts_List.grow_below (w : World) (os : Array Obj) : Below w.heap.size w (Go.Sort.grow w os) := ⟨rfl, rfl, rfl, by simp, fun k hk => Go.Sort.heap_grow_old w os hk⟩
/-- What the three calls leave, outside the walk. -/
theorem texts_List.left {w w1 : World} {g cap nn q : Nat} {os : Array Obj} {l0 : List ByteArray} {ts : List (List UInt8)} (hl2 : ts.length = l0.length) (hR : Kd.string.R 9 w1 w.heap.size (fun _ => True) (.slice (some ⟨g, 0, none⟩) l0.length cap) l0) (hbel : Below w.heap.size w w1) (hbg : w.heap.size ≤ g) (hgl : g < w1.heap.size) :
  Kd.string.R 9 (Go.Sort.putRow encStr (Go.Sort.ahead (Go.Sort.grow (Go.Sort.putRow encStr (Go.Sort.ahead w1 nn) g 0 ts.toArray) os) q) g 0 (Go.Lib.compact ts ++ List.replicate (l0.length - (Go.Lib.compact ts).length) []).toArray) w.heap.size (fun _ => True) (.slice (some ⟨g, 0, none⟩) (Go.Lib.compact ts).length cap) (texts_List.bs (Go.Lib.compact ts)) ∧
  Below w.heap.size w (Go.Sort.putRow encStr (Go.Sort.ahead (Go.Sort.grow (Go.Sort.putRow encStr (Go.Sort.ahead w1 nn) g 0 ts.toArray) os) q) g 0 (Go.Lib.compact ts ++ List.replicate (l0.length - (Go.Lib.compact ts).length) []).toArray) := by
 have hle := Go.Lib.compact_length_le ts
 have hown : w1.ownsRow w.heap.size 9 1 (.slice (some ⟨g, 0, none⟩) l0.length cap) l0.length ((texts_List.ls l0).map encStr) := by rw [texts_List.ls_enc]; exact Kd.own_of_R hR
 have hls : (texts_List.ls l0).length = l0.length := by simp [texts_List.ls]
 generalize texts_List.ls l0 = ss at *
 have h1 := Go.Lib.ownsRow_putRow (q := nn) (k := l0.length) (ys := ts) hown hl2 (Nat.le_refl _)
 rw [← hl2, List.take_length] at h1
 have hb1 := Go.Lib.below_putRow (enc := encStr) (q := nn) (d := ts.toArray) hbel hbg
 have h2 := pw_own_below h1 (texts_List.grow_below _ os)
 have hb2 := hb1.trans ((texts_List.grow_below (Go.Sort.putRow encStr (Go.Sort.ahead w1 nn) g 0 ts.toArray) os).mono (by simpa using hbel.size))
 rw [hl2] at h2 hle
 have h3 := Go.Lib.ownsRow_putRow (q := q) (k := (Go.Lib.compact ts).length) (ys := Go.Lib.compact ts ++ List.replicate (l0.length - (Go.Lib.compact ts).length) []) h2 (by simp; omega) hle
 rw [List.take_left, ← texts_List.bs_enc] at h3
 have hbl : (texts_List.bs (Go.Lib.compact ts)).length = (Go.Lib.compact ts).length := by simp [texts_List.bs]
 rw [← hbl] at h3
 rw [hbl] at h3
 refine ⟨?_, Go.Lib.below_putRow hb2 hbg⟩
 have h4 := Kd.R_of_own (xs := texts_List.bs (Go.Lib.compact ts)) (enc := Value.string) (h1 := fun _ => rfl) (by rw [hbl]; exact h3) (fun _ _ => trivial)
 first | exact h4 | (rw [hbl] at h4; exact h4)
theorem texts_List.compact_nil (w : World) : Calls Tryz.prog 72 #[.slice none 0 0] w fun e w' => e = .returned (.slice none 0 0) ∧ w' = w := by
 go_enter Tryz.func72, Tryz.ntmps72
 go_wp2
 go_ret
 exact ⟨rfl, rfl⟩
set_option maxHeartbeats 4000000 in
theorem texts_List.calls (A0 : Option Addr) (c0 : Nat) (l0 : List ByteArray) (r : List ByteArray) (w : World) (hr0 : Kd.string.C w A0 l0.length l0) (hc0 : l0.length ≤ c0) (h : texts_List.f l0 = some r) :
  Calls Tryz.prog 38 #[.slice A0 l0.length c0] w fun e w' => ∃ v0_ : Value, e = .returned v0_ ∧ Kd.string.R 9 w' w.heap.size (fun _ => True) v0_ r ∧ Below w.heap.size w w' := by
 unfold texts_List.f at h
 by_cases hl : l0.length * 16 ≤ 140737488355328
 case neg => rw [if_neg hl] at h; cases h
 rw [if_pos hl] at h
 obtain rfl := Option.some.inj h
 have hcl := slices_Clone_string_string.calls A0 c0 l0 l0 w hr0 hc0 (by unfold slices_Clone_string_string.f; rw [if_pos hl])
 clear hr0 h
 go_enter Tryz.func38, Tryz.ntmps38
 go_wp2_with (go_at_call 70; refine hcl.mono ?_; rintro e w1 ⟨v1, rfl, hR, hbel⟩)
 have hown : w1.ownsRow w.heap.size 9 1 v1 l0.length ((texts_List.ls l0).map encStr) := by rw [texts_List.ls_enc]; exact Kd.own_of_R hR
 by_cases hv : v1 = .slice none 0 0
 ·subst hv
  have h0 : l0 = [] := by
   rcases hown.2 with ⟨_, h0⟩ | ⟨g, cap, cur, e0, _⟩
   ·exact List.eq_nil_of_length_eq_zero h0
   ·cases e0
  subst h0
  go_wp2_with (first | (go_at_call 71; refine (Go.Proofs.Tryz.slices_Sort_string_none none 0 w1).mono ?_; rintro e w2 ⟨rfl, rfl⟩) | (go_at_call 72; refine (texts_List.compact_nil w2).mono ?_; rintro e w3 ⟨rfl, rfl⟩))
  go_ret
  exact ⟨_, rfl, by rw [show texts_List.bs (Go.Lib.compact (texts_List.srt ([] : List ByteArray))) = [] from by simp [texts_List.bs, texts_List.srt, texts_List.ls, Go.Lib.compact, Go.Lib.compactUpTo]]; exact hR, hbel⟩
 ·obtain ⟨g, cap, rfl, hbg, hgl, hncap, hcm, _, hH⟩ := Go.Lib.holds_of_ownsRow hown hv
  have hlen : l0.length < 4611686018427387904 := by omega
  have hlsl : (texts_List.ls l0).length = l0.length := by simp [texts_List.ls]
  have hsort := Go.Proofs.Tryz.slices_Sort_string g 0 cap (texts_List.ls l0) w1 hH hgl (by rw [hlsl]; exact hlen)
  rw [hlsl] at hsort
  have hl2 : (texts_List.srt l0).length = l0.length := (List.length_mergeSort _).trans hlsl
  have hleft : ∀ nn q os, _ := fun nn q os => texts_List.left (nn := nn) (q := q) (os := os) hl2 hR hbel hbg hgl
  obtain ⟨ts, hts⟩ : ∃ ts, ts = texts_List.srt l0 := ⟨_, rfl⟩
  have hts2 : (texts_List.ls l0).mergeSort (fun x y => decide (x ≤ y)) = ts := hts.symm
  rw [hts2] at hsort
  rw [← hts] at hleft hl2
  have HT := Aside0.mk hts
  clear hts hts2
  have hcomp : ∀ nn os, Calls Tryz.prog 72 #[.slice (some ⟨g, 0, none⟩) l0.length cap] (Go.Sort.grow (Go.Sort.putRow encStr (Go.Sort.ahead w1 nn) g 0 ts.toArray) os) fun e w' => e = .returned (.slice (some ⟨g, 0, none⟩) (Go.Lib.compact ts).length cap) ∧ ∃ q, w' = Go.Sort.putRow encStr (Go.Sort.ahead (Go.Sort.grow (Go.Sort.putRow encStr (Go.Sort.ahead w1 nn) g 0 ts.toArray) os) q) g 0 (Go.Lib.compact ts ++ List.replicate (l0.length - (Go.Lib.compact ts).length) []).toArray := by
   intro nn os
   have hH2 : Go.Sort.Holds encStr (Go.Sort.grow (Go.Sort.putRow encStr (Go.Sort.ahead w1 nn) g 0 ts.toArray) os) g 0 ts.toArray :=
    Go.Sort.holds_grow _ _ os g 0 _ (by simpa using hgl) (Go.Sort.holds_putRow _ _ g 0 _ _ (Go.Sort.holds_ahead _ w1 nn g 0 _ hH) (by simp [hl2, hlsl]))
   have := Go.Proofs.Tryz.slices_Compact_f72 encStr (fun _ => rfl) (texts_List.eql _ _) (texts_List.neq _ _) [] (fun w => by kernel_rfl) g 0 cap ts.toArray _ hH2 (by simp; omega) (by simp; omega)
   rw [List.size_toArray, hl2] at this
   have e1 : Go.Lib.compactUpTo ts.toArray l0.length = Go.Lib.compact ts := by unfold Go.Lib.compact; rw [hl2]
   rw [e1] at this
   exact this
  have HL := Aside0.mk hleft
  clear hleft hH hR hown hbel hcl
  go_wp2_with (first | (go_at_call 71; refine hsort.mono ?_; rintro e w2 ⟨rfl, nn, os, rfl⟩) | (go_at_call 72; refine (hcomp nn os).mono ?_; rintro e w3 ⟨rfl, q, rfl⟩))
  go_ret
  exact ⟨_, rfl, by rw [← HT.out]; exact (HL.out nn q os).1, (HL.out nn q os).2⟩

/-! ### num_PutVar: function 39 -/
def num_PutVar.l0 : Nat → List Int → Int → Option (List Int)
 | 0, _, _ => none
 | k + 1, x0, x1 => if x1 ≥ 128 then (if x0.length < 140737488355328 then (num_PutVar.l0 k (x0 ++ [Go.bits .or .u8 ((x1) % 256) 128]) (x1 / 128)) else (none)) else (if x0.length < 140737488355328 then (some (x0 ++ [(x1) % 256])) else (none))
def num_PutVar.f (k : Nat) (l0 : List Int) (a1 : Int) : Option (List Int) := num_PutVar.l0 k l0 a1
set_option maxHeartbeats 8000000 in
set_option maxRecDepth 100000 in
theorem num_PutVar.calls (k : Nat) (P0_ : Nat → Prop) (u9000_ : Value) (l0 : List Int) (a1 : Int) (r : List Int) (w0 w : World) (hB : Below w0.heap.size w0 w) (ho0 : Kd.R (Kd.int .u8) 5 w w0.heap.size P0_ u9000_ l0) (h : num_PutVar.f k l0 a1 = some r) :
  Calls Tryz.prog 39 #[u9000_, .int .u64 a1] w fun e w' => ∃ v0_ : Value, e = .returned (v0_) ∧ Kd.R (Kd.int .u8) 5 w' w0.heap.size (fun k_ => (P0_ k_ ∨ w.heap.size ≤ k_)) v0_ r ∧ Below w0.heap.size w0 w' ∧ Kept w w' (fun k_ => P0_ k_) := by
 have HO0 := Aside0.mk (show Kd.R (Kd.int .u8) 5 w w0.heap.size (fun k_ => (P0_ k_ ∨ w.heap.size ≤ k_)) u9000_ l0 from Kd.R_mono ho0 (fun k_ hk => (.inl hk)))
 have HK := Aside0.mk (Kept.refl w (fun k_ => P0_ k_))
 have HW0 := Aside0.mk hB.size
 have HB := Aside0.mk hB
 clear hB
 have H : (num_PutVar.l0 k l0 a1) = some r := h
 clear h
 have H' := Aside0.mk H
 clear H
 go_enter Tryz.func39, Tryz.ntmps39
 go_wp2
 go_loopg [0, 1] k (fun kq v0 v1 w' => ∃ (x0_1 : List Int) (x1_1 : Int), v1 = .int .u64 x1_1 ∧ Aside0 (num_PutVar.l0 kq x0_1 x1_1 = some r) ∧ Aside0 (kq ≤ k) ∧ Aside0 (Kd.R (Kd.int .u8) 5 w' w0.heap.size (fun k_ => (P0_ k_ ∨ w.heap.size ≤ k_)) v0 x0_1) ∧ Aside0 (Kept w w' (fun k_ => P0_ k_)) ∧ Aside0 (Below w0.heap.size w0 w'))
 case atStart => exact ⟨(l0), (a1), EB, H', ⟨Nat.le_refl _⟩, ⟨RU HO0.out⟩, ⟨by repeat (first | (with_reducible first | exact HK.out | apply Kept.alloc | apply Kept.drewN | apply Kept.drew) | exact HK.out)⟩, ⟨BU HB.out⟩⟩
 case round =>
  clear H'
  try clear p2
  obtain ⟨x0_1, x1_1, rfl, HA, HK1, HO_0, HK, HB⟩ := hrel
  cases gk with
  | zero => exact absurd HA.out (by simp [num_PutVar.l0])
  | succ k1 =>
   have H := HA.out
   clear HA
   simp only [num_PutVar.l0] at H
   by_cases c3 : x1_1 ≥ 128
   ·rw [if_pos c3] at H
    have c3b0 : decide (128 ≤ x1_1) = true := decide_eq_true c3
    clear c3
    by_cases c4 : x0_1.length < 140737488355328
    ·rw [if_pos c4] at H
     have LMc4 := Aside0.mk c4
     clear c4
     obtain ⟨y108, hy108⟩ : ∃ y_ : List Int, y_ = (x0_1 ++ [Go.bits .or .u8 ((x1_1) % 256) 128]) := ⟨_, rfl⟩
     replace H : (num_PutVar.l0 k1 y108 (x1_1 / 128)) = some r := by first | (rw [hy108]; with_reducible exact H) | (have H2_ := (Option.bind_some _ _).symm.trans H; rw [hy108]; with_reducible exact H2_) | (have H2_ := (Option.bind_some _ _).symm.trans H; with_reducible exact H2_) | with_reducible exact H | (rw [hy108]; exact H) | exact H
     have Ny108 := Aside0.mk hy108
     clear hy108
     have H' := Aside0.mk H
     clear H
     go_wp2_with (first | ((with_reducible refine gate_builtin (b := .append) (xs := #[.tmp 9, .tmp 13]) rfl ?_); at_builtin; refine Kd.R_append (Kd.int .u8) (w0 := w0) w0.heap.size rfl (.tmp 9) (.tmp 13) 25 5 (.int .u8 0) 1 rfl Tryz.underlying25 info5 rfl (by decide) (by omega) u0 x0_1 (Go.bits .or .u8 ((x1_1) % 256) 128) [.int .u8 (Go.bits .or .u8 ((x1_1) % 256) 128)] (fun k_ => (P0_ k_ ∨ w.heap.size ≤ k_)) (fun _ => False) rfl rfl ?aP (fun _ hk => hk.elim) ?aF ?aO ?aB ?aS ?aL ?_; (case aP => exact rfl); (case aB => exact (BU HB.out)); (case aF => exact (fun k_ hk => (.inr (Nat.le_trans (by first | exact HK.out.1 | exact (show Kept w _ (fun k_ => P0_ k_) from by repeat (first | (with_reducible first | exact HK.out | apply Kept.alloc | apply Kept.drewN | apply Kept.drew) | exact HK.out)).1) hk)))); (case aO => exact (RU HO_0.out)); (case aS => exact (below_size (BU HB.out))); (case aL => have := LMc4.out; omega); intro v109 w5 ho hb hg hat; rw [← Ny108.out] at ho; have n0_ := Aside0.mk (hb); have n1_ := Aside0.mk (Kept.of_grown (S := (fun k_ => P0_ k_)) hg (by repeat (first | (with_reducible first | exact HK.out | apply Kept.alloc | apply Kept.drewN | apply Kept.drew) | exact HK.out)) (fun k_ e_ => (HO_0.out.1 k_ e_))); have n2_ := Aside0.mk (ho); clear HB HK HO_0; have HB := n0_; have HK := n1_; have HO110 := n2_; clear n0_ n1_ n2_; clear ho hb hg hat))
     go_roundg k1
     case measure => have := HK1.out; omega
     case rel => exact ⟨(y108), (x1_1 / 128), EB, H', ⟨by have := HK1.out; omega⟩, ⟨RU HO110.out⟩, ⟨by repeat (first | (with_reducible first | exact HK.out | apply Kept.alloc | apply Kept.drewN | apply Kept.drew) | exact HK.out)⟩, ⟨BU HB.out⟩⟩
    ·rw [if_neg c4] at H
     exact absurd H (by simp)
   ·rw [if_neg c3] at H
    have c3b0 : decide (128 ≤ x1_1) = false := decide_eq_false c3
    clear c3
    by_cases c6 : x0_1.length < 140737488355328
    ·rw [if_pos c6] at H
     have LMc6 := Aside0.mk c6
     clear c6
     obtain ⟨y111, hy111⟩ : ∃ y_ : List Int, y_ = (x0_1 ++ [(x1_1) % 256]) := ⟨_, rfl⟩
     replace H : (some y111) = some r := by first | (rw [hy111]; with_reducible exact H) | (have H2_ := (Option.bind_some _ _).symm.trans H; rw [hy111]; with_reducible exact H2_) | (have H2_ := (Option.bind_some _ _).symm.trans H; with_reducible exact H2_) | with_reducible exact H | (rw [hy111]; exact H) | exact H
     have Ny111 := Aside0.mk hy111
     clear hy111
     obtain rfl := Option.some.inj H
     go_wp2_with (first | ((with_reducible refine gate_builtin (b := .append) (xs := #[.tmp 15, .tmp 18]) rfl ?_); at_builtin; refine Kd.R_append (Kd.int .u8) (w0 := w0) w0.heap.size rfl (.tmp 15) (.tmp 18) 25 5 (.int .u8 0) 1 rfl Tryz.underlying25 info5 rfl (by decide) (by omega) u0 x0_1 ((x1_1) % 256) [.int .u8 ((x1_1) % 256)] (fun k_ => (P0_ k_ ∨ w.heap.size ≤ k_)) (fun _ => False) rfl rfl ?aP (fun _ hk => hk.elim) ?aF ?aO ?aB ?aS ?aL ?_; (case aP => exact rfl); (case aB => exact (BU HB.out)); (case aF => exact (fun k_ hk => (.inr (Nat.le_trans (by first | exact HK.out.1 | exact (show Kept w _ (fun k_ => P0_ k_) from by repeat (first | (with_reducible first | exact HK.out | apply Kept.alloc | apply Kept.drewN | apply Kept.drew) | exact HK.out)).1) hk)))); (case aO => exact (RU HO_0.out)); (case aS => exact (below_size (BU HB.out))); (case aL => have := LMc6.out; omega); intro v112 w7 ho hb hg hat; rw [← Ny111.out] at ho; have n0_ := Aside0.mk (hb); have n1_ := Aside0.mk (Kept.of_grown (S := (fun k_ => P0_ k_)) hg (by repeat (first | (with_reducible first | exact HK.out | apply Kept.alloc | apply Kept.drewN | apply Kept.drew) | exact HK.out)) (fun k_ e_ => (HO_0.out.1 k_ e_))); have n2_ := Aside0.mk (ho); clear HB HK HO_0; have HB := n0_; have HK := n1_; have HO113 := n2_; clear n0_ n1_ n2_; clear ho hb hg hat))
     go_ret
     exact ⟨_, by first | rfl | (simp [errW_none, errW_some] <;> rfl) | (simp [*, errW_none, errW_some] <;> rfl), RU HO113.out, BU HB.out, by repeat (first | (with_reducible first | exact HK.out | apply Kept.alloc | apply Kept.drewN | apply Kept.drew) | exact HK.out)⟩
    ·rw [if_neg c6] at H
     exact absurd H (by simp)

/-! ### num_PutBlob: function 40 -/
def num_PutBlob.f (k : Nat) (l0 : List Int) (l1 : List Int) : Option (List Int) := (num_PutVar.f k l0 (IntKind.u64.wrap ((l1.length : Int)))).bind fun t114 => (if t114.length + l1.length < 140737488355328 then (some (t114 ++ l1)) else (none))
set_option maxHeartbeats 8000000 in
set_option maxRecDepth 100000 in
theorem num_PutBlob.calls (k : Nat) (P0_ : Nat → Prop) (u9000_ : Value) (l0 : List Int) (A1 : Option Addr) (c1 : Nat) (l1 : List Int) (r : List Int) (w0 w : World) (hB : Below w0.heap.size w0 w) (ho0 : Kd.R (Kd.int .u8) 5 w w0.heap.size P0_ u9000_ l0) (hr1 : ∀ W_, Kept w W_ (fun k_ => P0_ k_) → Kd.C (Kd.int .u8) W_ A1 l1.length l1) (hc1 : l1.length ≤ c1) (h : num_PutBlob.f k l0 l1 = some r) :
  Calls Tryz.prog 40 #[u9000_, .slice A1 l1.length c1] w fun e w' => ∃ v0_ : Value, e = .returned (v0_) ∧ Kd.R (Kd.int .u8) 5 w' w0.heap.size (fun k_ => (P0_ k_ ∨ w.heap.size ≤ k_)) v0_ r ∧ Below w0.heap.size w0 w' ∧ Kept w w' (fun k_ => P0_ k_) := by
 have HO0 := Aside0.mk (show Kd.R (Kd.int .u8) 5 w w0.heap.size (fun k_ => (P0_ k_ ∨ w.heap.size ≤ k_)) u9000_ l0 from Kd.R_mono ho0 (fun k_ hk => (.inl hk)))
 have HR1 := Aside0.mk hr1
 have HC1 := Aside0.mk hc1
 clear hr1 hc1
 have HK := Aside0.mk (Kept.refl w (fun k_ => P0_ k_))
 have HW0 := Aside0.mk hB.size
 have HB := Aside0.mk hB
 clear hB
 have H : ((num_PutVar.f k l0 (IntKind.u64.wrap ((l1.length : Int)))).bind fun t114 => (if t114.length + l1.length < 140737488355328 then (some (t114 ++ l1)) else (none))) = some r := h
 clear h
 replace H := Option.bind_eq_some_iff.mp H
 obtain ⟨t114, A30, H⟩ := H
 replace H : (if t114.length + l1.length < 140737488355328 then (some (t114 ++ l1)) else (none)) = some r := H
 have A3 := Aside0.mk A30
 clear A30
 by_cases c4 : t114.length + l1.length < 140737488355328
 ·rw [if_pos c4] at H
  have LMc4 := Aside0.mk c4
  clear c4
  obtain ⟨y117, hy117⟩ : ∃ y_ : List Int, y_ = (t114 ++ l1) := ⟨_, rfl⟩
  replace H : (some y117) = some r := by first | (rw [hy117]; with_reducible exact H) | (have H2_ := (Option.bind_some _ _).symm.trans H; rw [hy117]; with_reducible exact H2_) | (have H2_ := (Option.bind_some _ _).symm.trans H; with_reducible exact H2_) | with_reducible exact H | (rw [hy117]; exact H) | exact H
  have Ny117 := Aside0.mk hy117
  clear hy117
  obtain rfl := Option.some.inj H
  obtain ⟨Ao5, co5, eo5⟩ := Kd.R_slice HO0.out
  subst eo5
  go_enter Tryz.func40, Tryz.ntmps40
  go_wp2_with (first | ((with_reducible refine gate_callee (f := 39) rfl ?_); refine goesL_ (some 9) rfl rfl Tryz.func39 (by kernel_rfl) rfl #[.slice Ao5 l0.length co5, .int .u64 (IntKind.u64.wrap ((l1.length : Int)))] rfl EA ?_; (with_reducible refine (num_PutVar.calls k (fun k_ => some k_ = (.slice Ao5 l0.length co5 : Value).ownBlock) (.slice Ao5 l0.length co5) l0 (IntKind.u64.wrap ((l1.length : Int))) t114 w0 _ ?side1 ?side2 A3.out).mono ?_); (case side1 => repeat (first | (with_reducible first | exact HB.out | apply below_alloc | apply pw_below_drewN | apply below_drew1) | exact HB.out)); (case side2 => exact Kd.R_tight rfl HO0.out); rintro e w6 ⟨v115, rfl, ho0, hb, hkp⟩; refine ⟨_, rfl, ?_⟩; have n0_ := Aside0.mk (Kd.R_mono (ok' := fun k_ => (P0_ k_ ∨ w.heap.size ≤ k_)) ho0 (fun k_ hk_ => Or.elim hk_ (fun hs_ => (HO0.out.1 k_ (hs_).symm)) (fun hn_ => (.inr (Nat.le_trans (by first | exact HK.out.1 | exact (show Kept w _ (fun k_ => P0_ k_) from by repeat (first | (with_reducible first | exact HK.out | apply Kept.alloc | apply Kept.drewN | apply Kept.drew) | exact HK.out)).1) hn_))))); have n1_ := Aside0.mk (Kept.then_ (S := (fun k_ => P0_ k_)) (by repeat (first | (with_reducible first | exact HK.out | apply Kept.alloc | apply Kept.drewN | apply Kept.drew) | exact HK.out)) hkp (fun k_ hs_ => (fun e_ => (HO0.out.1 k_ e_.symm)) hs_)); have n2_ := Aside0.mk (hb); clear HK HB HO0; have HO116 := n0_; have HK := n1_; have HB := n2_; clear n0_ n1_ n2_; (try clear hb); (try clear hkp); (try clear ho0)) | ((with_reducible refine gate_builtin (b := .append) (xs := #[.tmp 9, .tmp 10]) rfl ?_); at_builtin; refine Kd.R_append_rows (Kd.int .u8) (w0 := w0) w0.heap.size rfl (.tmp 9) (.tmp 10) 25 5 (.int .u8 0) 1 rfl Tryz.underlying25 info5 rfl (by decide) (by omega) v115 t114 l1 _ _ _ (fun k_ => (P0_ k_ ∨ w.heap.size ≤ k_)) (fun _ => False) rfl rfl ?aO ?aR (fun _ _ h => h) (fun _ h => h.elim) ?aF ?aB ?aS ?aL ?_; (case aR => exact Kd.C_kept_now HR1.out (by repeat (first | (with_reducible first | exact HK.out | apply Kept.alloc | apply Kept.drewN | apply Kept.drew) | exact HK.out))); (case aB => exact (BU HB.out)); (case aF => exact (fun k_ hk => (.inr (Nat.le_trans (by first | exact HK.out.1 | exact (show Kept w _ (fun k_ => P0_ k_) from by repeat (first | (with_reducible first | exact HK.out | apply Kept.alloc | apply Kept.drewN | apply Kept.drew) | exact HK.out)).1) hk)))); (case aO => exact (RU HO116.out)); (case aS => exact (below_size (BU HB.out))); (case aL => have := LMc4.out; omega); intro v118 w7 ho hb hg hat; rw [← Ny117.out] at ho; have n0_ := Aside0.mk (hb); have n1_ := Aside0.mk (Kept.of_grown (S := (fun k_ => P0_ k_)) hg (by repeat (first | (with_reducible first | exact HK.out | apply Kept.alloc | apply Kept.drewN | apply Kept.drew) | exact HK.out)) (fun k_ e_ => (HO116.out.1 k_ e_))); have n2_ := Aside0.mk (ho); clear HB HK HO116; have HB := n0_; have HK := n1_; have HO119 := n2_; clear n0_ n1_ n2_; clear ho hb hg hat))
  go_ret
  exact ⟨_, by first | rfl | (simp [errW_none, errW_some] <;> rfl) | (simp [*, errW_none, errW_some] <;> rfl), RU HO119.out, BU HB.out, by repeat (first | (with_reducible first | exact HK.out | apply Kept.alloc | apply Kept.drewN | apply Kept.drew) | exact HK.out)⟩
 ·rw [if_neg c4] at H
  exact absurd H (by simp)

/-- The bytes of a string, as numbers. -/
def num_PutBlobS.bs (s : ByteArray) : List Int := s.data.toList.map fun b => (b.toNat : Int)
def num_PutBlobS.f (k : Nat) (l0 : List Int) (s : ByteArray) : Option (List Int) := num_PutBlob.f k l0 (num_PutBlobS.bs s)
theorem num_PutBlobS.bs_length (s : ByteArray) : (num_PutBlobS.bs s).length = s.size := by unfold num_PutBlobS.bs; rw [List.length_map, Array.length_toList]; rfl
theorem num_PutBlobS.below (w : World) (e : TypeId) (s : ByteArray) : Below w.heap.size w (Go.Lib.bytesWorld w e s) :=
 ⟨rfl, rfl, rfl, by rw [Go.Lib.bytesWorld_size]; omega, fun j hj => Go.Lib.bytesWorld_at_old w e s j hj⟩
theorem num_PutBlobS.reads (w w1 : World) (e : TypeId) (s : ByteArray) (hs : s.size ≤ 9223372036854775807) (h : w1.heap[w.heap.size]? = (Go.Lib.bytesWorld w e s).heap[w.heap.size]?) : (Kd.int .u8).C w1 (some ⟨w.heap.size, 0, none⟩) (num_PutBlobS.bs s).length (num_PutBlobS.bs s) := by
 rw [num_PutBlobS.bs_length]
 refine ⟨num_PutBlobS.bs_length s, hs, fun hn => ⟨_, rfl, fun j p hj => ⟨[.int .u8 p], rfl, rfl, fun i u hu => ?_⟩⟩⟩
 have hj' : j < s.size := by have := (List.getElem?_eq_some_iff.1 hj).1; rw [num_PutBlobS.bs_length] at this; exact this
 have hc := Go.Lib.bytesWorld_cell w e s j hj'
 have hp : p = ((s.data.toList.getD j 0).toNat : Int) := by
  have hj2 : j < s.data.toList.length := by rw [Array.length_toList]; exact hj'
  simp only [num_PutBlobS.bs, List.getElem?_map, List.getElem?_eq_getElem hj2, Option.map_some, Option.some.injEq] at hj
  rw [List.getD_eq_getElem?_getD, List.getElem?_eq_getElem hj2]; exact hj.symm
 rcases i with _ | i
 ·simp at hu
  subst hu
  have ha : (⟨w.heap.size, 0, none⟩ : Addr).add (j * 1 + 0) = ⟨w.heap.size, j, none⟩ := by unfold Addr.add; split <;> simp_all
  show w1.cell? ((⟨w.heap.size, 0, none⟩ : Addr).add (j * 1 + 0)) = _
  rw [ha, hp, ← hc]
  simp only [World.cell?, h]
 ·simp at hu
theorem num_PutBlobS.wp {w0 W : World} {ops : Array Oper} {rest : List Oper} {o1 o2 : Oper} {a : Act} {Q : Exit → Act → World → Prop} {x b : Operand} {t : Tmp} (k : Nat) (P0_ : Nat → Prop) (u9000_ : Value) (l0 : List Int) (s : ByteArray) (r : List Int)
  (hg1 : o1.guard = none) (hop1 : o1.op = .convert 9 25 x) (hd1 : o1.dst = some t) (hg2 : o2.guard = none) (hop2 : o2.op = .call { callee := .value (.func 40), args := #[b, .tmp t], argTypes := #[25, 25] })
  (hx : a.eval x = .string s) (hb : ∀ v, (a.put (some t) v).eval b = u9000_ ∧ (a.put (some t) v).eval (.tmp t) = v) (hP : P0_ = fun k_ => some k_ = u9000_.ownBlock) (hB : Below w0.heap.size w0 W) (ho0 : Kd.R (Kd.int .u8) 5 W w0.heap.size P0_ u9000_ l0) (h : num_PutBlobS.f k l0 s = some r)
  (hK : ∀ (v1 : Value) (e : Ending) (w' : World), (∃ v0_ : Value, e = .returned v0_ ∧ Kd.R (Kd.int .u8) 5 w' w0.heap.size (fun k_ => (P0_ k_ ∨ W.heap.size ≤ k_)) v0_ r ∧ Below w0.heap.size w0 w' ∧ Kept W w' (fun k_ => P0_ k_)) → ∃ v : Value, e = .returned v ∧ wpList Tryz.prog ops Q rest ((a.put o1.dst v1).put o2.dst v) w') :
  wpList Tryz.prog ops Q (o1 :: o2 :: rest) a W := by
 have hs : s.size ≤ 9223372036854775807 := by
  by_cases hc : s.size ≤ 9223372036854775807
  ·exact hc
  ·exfalso
   unfold num_PutBlobS.f num_PutBlob.f at h
   obtain ⟨t1, _, h⟩ := Option.bind_eq_some_iff.mp h
   by_cases c : t1.length + (num_PutBlobS.bs s).length < 140737488355328
   ·rw [num_PutBlobS.bs_length] at c; omega
   ·rw [if_neg c] at h; cases h
 have hrun := Go.Lib.run_convert_string_bytes (P := Tryz.prog) W 9 25 5 s (u := .string) (by kernel_rfl) (by kernel_rfl) (by kernel_rfl)
 have hbel := num_PutBlobS.below W 5 s
 refine wpList_plain hg1 fun K' hK' => ?_
 unfold Oper.wp
 simp [execOp, hop1, hx, hrun, Result.andThen]
 refine hK' _ _ ?_
 have hlt : ∀ k_, P0_ k_ → k_ < W.heap.size := fun k_ hk => by
  rw [hP] at hk
  exact ((Kd.R_bound ho0).1 k_ hk.symm).2.2.1
 have hcap := grownCap_ge W s.size 0 5
 obtain ⟨hb1, hb2⟩ := hb (.slice (some ⟨W.heap.size, 0, none⟩) s.size (grownCap W s.size 0 5))
 have hcall := num_PutBlob.calls k P0_ u9000_ l0 (some ⟨W.heap.size, 0, none⟩) (grownCap W s.size 0 5) (num_PutBlobS.bs s) r w0 (Go.Lib.bytesWorld W 5 s) (below_weaken hB hB.size hbel) (Kd.R_below ho0 hbel)
  (fun W_ hk => num_PutBlobS.reads W W_ 5 s hs (hk.2 _ (by rw [Go.Lib.bytesWorld_size]; omega) (fun hp => by have := hlt _ hp; omega))) (by rw [num_PutBlobS.bs_length]; exact hcap) h
 rw [num_PutBlobS.bs_length] at hcall
 refine goesL_ o2.dst rfl hg2 Tryz.func40 (by kernel_rfl) rfl #[u9000_, .slice (some ⟨W.heap.size, 0, none⟩) s.size (grownCap W s.size 0 5)] hop2 (by simp only [hd1, List.map_toArray, List.map_cons, List.map_nil, hb1, hb2]) (hcall.mono ?_)
 rintro e w' ⟨v0, he, hR, hBw, hkp⟩
 exact hK _ e w' ⟨v0, he, Kd.R_mono hR (fun k_ hk => hk.imp_right fun hk => Nat.le_trans (by rw [Go.Lib.bytesWorld_size]; omega) hk), hBw, (Kept.of_below hbel _).then_ hkp (fun _ hk => .inl hk)⟩

/-! ### cmp_isNaN_string: function 105 -/
def cmp_isNaN_string.f (a0 : ByteArray) : Option (Bool) := some (a0.toList != a0.toList)
set_option maxHeartbeats 8000000 in
set_option maxRecDepth 100000 in
theorem cmp_isNaN_string.calls (a0 : ByteArray) (r : Bool) (w : World) (h : cmp_isNaN_string.f a0 = some r) :
  Calls Tryz.prog 105 #[.string a0] w fun e w' => e = .returned (.bool r) ∧ Drawn0 w w' := by
 have H : (some (a0.toList != a0.toList)) = some r := h
 clear h
 obtain rfl := Option.some.inj H
 go_enter Tryz.func105, Tryz.ntmps105
 go_wp2
 go_ret
 exact ⟨by first | rfl | (simp; done) | (simp [*]; done), by repeat (first | exact Drawn0.refl _ | apply Drawn0.step)⟩

/-! ### cmp_Less_string: function 73 -/
def cmp_Less_string.f (a0 : ByteArray) (a1 : ByteArray) : Option (Bool) := (cmp_isNaN_string.f a0).bind fun t120 => (if t120 = true then ((cmp_isNaN_string.f a1).bind fun t121 => (if t121 = true then (some (Op.bytesLess a0.toList a1.toList)) else (some true))) else (some (Op.bytesLess a0.toList a1.toList)))
set_option maxHeartbeats 8000000 in
set_option maxRecDepth 100000 in
theorem cmp_Less_string.calls (a0 : ByteArray) (a1 : ByteArray) (r : Bool) (w : World) (h : cmp_Less_string.f a0 a1 = some r) :
  Calls Tryz.prog 73 #[.string a0, .string a1] w fun e w' => e = .returned (.bool r) ∧ Drawn0 w w' := by
 have H : ((cmp_isNaN_string.f a0).bind fun t120 => (if t120 = true then ((cmp_isNaN_string.f a1).bind fun t121 => (if t121 = true then (some (Op.bytesLess a0.toList a1.toList)) else (some true))) else (some (Op.bytesLess a0.toList a1.toList)))) = some r := h
 clear h
 replace H := Option.bind_eq_some_iff.mp H
 obtain ⟨t120, A30, H⟩ := H
 replace H : (if t120 = true then ((cmp_isNaN_string.f a1).bind fun t121 => (if t121 = true then (some (Op.bytesLess a0.toList a1.toList)) else (some true))) else (some (Op.bytesLess a0.toList a1.toList))) = some r := H
 have A3 := Aside0.mk A30
 clear A30
 by_cases c4 : t120 = true
 ·subst c4
  have H1 : ((cmp_isNaN_string.f a1).bind fun t121 => (if t121 = true then (some (Op.bytesLess a0.toList a1.toList)) else (some true))) = some r := by rw [if_pos rfl] at H; exact H
  clear H
  have H := H1
  clear H1
  replace H := Option.bind_eq_some_iff.mp H
  obtain ⟨t121, A50, H⟩ := H
  replace H : (if t121 = true then (some (Op.bytesLess a0.toList a1.toList)) else (some true)) = some r := H
  have A5 := Aside0.mk A50
  clear A50
  by_cases c6 : t121 = true
  ·subst c6
   have H1 : (some (Op.bytesLess a0.toList a1.toList)) = some r := by rw [if_pos rfl] at H; exact H
   clear H
   have H := H1
   clear H1
   obtain rfl := Option.some.inj H
   go_enter Tryz.func73, Tryz.ntmps73
   go_wp2_with (first | ((with_reducible refine gate_callee (f := 105) rfl ?_); refine goesL_ (some 6) rfl rfl Tryz.func105 (by kernel_rfl) rfl #[.string a0] rfl EA ?_; (with_reducible refine (cmp_isNaN_string.calls a0 true _ A3.out).mono ?_); rintro e w' ⟨rfl, ⟨nd, rfl⟩⟩; refine ⟨_, rfl, ?_⟩) | (go_at_call 105; (with_reducible refine (cmp_isNaN_string.calls a1 true _ A5.out).mono ?_); rintro e w' ⟨rfl, ⟨nd, rfl⟩⟩))
   go_ret
   exact ⟨by first | rfl | (simp; done) | (simp [*]; done), by repeat (first | exact Drawn0.refl _ | apply Drawn0.step)⟩
  ·replace c6 := Bool.eq_false_iff.mpr c6
   subst c6
   have H1 : (some true) = some r := by rw [if_neg (show ¬ (false = true) by decide)] at H; exact H
   clear H
   have H := H1
   clear H1
   obtain rfl := Option.some.inj H
   go_enter Tryz.func73, Tryz.ntmps73
   go_wp2_with (first | ((with_reducible refine gate_callee (f := 105) rfl ?_); refine goesL_ (some 6) rfl rfl Tryz.func105 (by kernel_rfl) rfl #[.string a0] rfl EA ?_; (with_reducible refine (cmp_isNaN_string.calls a0 true _ A3.out).mono ?_); rintro e w' ⟨rfl, ⟨nd, rfl⟩⟩; refine ⟨_, rfl, ?_⟩) | (go_at_call 105; (with_reducible refine (cmp_isNaN_string.calls a1 false _ A5.out).mono ?_); rintro e w' ⟨rfl, ⟨nd, rfl⟩⟩))
   go_ret
   exact ⟨by first | rfl | (simp; done) | (simp [*]; done), by repeat (first | exact Drawn0.refl _ | apply Drawn0.step)⟩
 ·replace c4 := Bool.eq_false_iff.mpr c4
  subst c4
  have H1 : (some (Op.bytesLess a0.toList a1.toList)) = some r := by rw [if_neg (show ¬ (false = true) by decide)] at H; exact H
  clear H
  have H := H1
  clear H1
  obtain rfl := Option.some.inj H
  go_enter Tryz.func73, Tryz.ntmps73
  go_wp2_with (first | ((with_reducible refine gate_callee (f := 105) rfl ?_); refine goesL_ (some 6) rfl rfl Tryz.func105 (by kernel_rfl) rfl #[.string a0] rfl EA ?_; (with_reducible refine (cmp_isNaN_string.calls a0 false _ A3.out).mono ?_); rintro e w' ⟨rfl, ⟨nd, rfl⟩⟩; refine ⟨_, rfl, ?_⟩))
  go_ret
  exact ⟨by first | rfl | (simp; done) | (simp [*]; done), by repeat (first | exact Drawn0.refl _ | apply Drawn0.step)⟩

/-! ### slices_isNaN_string: function 74 -/
def slices_isNaN_string.f (a0 : ByteArray) : Option (Bool) := some (a0.toList != a0.toList)
set_option maxHeartbeats 8000000 in
set_option maxRecDepth 100000 in
theorem slices_isNaN_string.calls (a0 : ByteArray) (r : Bool) (w : World) (h : slices_isNaN_string.f a0 = some r) :
  Calls Tryz.prog 74 #[.string a0] w fun e w' => e = .returned (.bool r) ∧ Drawn0 w w' := by
 have H : (some (a0.toList != a0.toList)) = some r := h
 clear h
 obtain rfl := Option.some.inj H
 go_enter Tryz.func74, Tryz.ntmps74
 go_wp2
 go_ret
 exact ⟨by first | rfl | (simp; done) | (simp [*]; done), by repeat (first | exact Drawn0.refl _ | apply Drawn0.step)⟩

/-! ### slices_BinarySearch_string_string: function 41 -/
def slices_BinarySearch_string_string.l0 : Nat → List ByteArray → ByteArray → Int → Int → Int → Option (Int × Bool)
 | 0, _, _, _, _, _ => none
 | k + 1, x0, x1, x6, x7, x8 => if x7 < x8 then (if 0 ≤ (wrap64 ((IntKind.u64.wrap (wrap64 (x7 + x8))) / 2)) then (if (wrap64 ((IntKind.u64.wrap (wrap64 (x7 + x8))) / 2)) < (x0.length : Int) then ((cmp_Less_string.f (rdOf ByteArray.empty x0 (wrap64 ((IntKind.u64.wrap (wrap64 (x7 + x8))) / 2))) x1).bind fun t123 => (if t123 = true then (slices_BinarySearch_string_string.l0 k x0 x1 x6 (wrap64 ((wrap64 ((IntKind.u64.wrap (wrap64 (x7 + x8))) / 2)) + 1)) x8) else (slices_BinarySearch_string_string.l0 k x0 x1 x6 x7 (wrap64 ((IntKind.u64.wrap (wrap64 (x7 + x8))) / 2))))) else (none)) else (none)) else (if x7 < x6 then (if 0 ≤ x7 then (if x7 < (x0.length : Int) then (if (rdOf ByteArray.empty x0 x7).toList = x1.toList then (some (x7, true)) else ((slices_isNaN_string.f (rdOf ByteArray.empty x0 x7)).bind fun t126 => (if t126 = true then ((slices_isNaN_string.f x1).bind fun t127 => (some (x7, t127))) else (some (x7, false))))) else (none)) else (none)) else (some (x7, false)))
def slices_BinarySearch_string_string.f (k : Nat) (l0 : List ByteArray) (a1 : ByteArray) : Option (Int × Bool) := slices_BinarySearch_string_string.l0 k l0 a1 (l0.length : Int) 0 (l0.length : Int)
set_option maxHeartbeats 8000000 in
set_option maxRecDepth 100000 in
theorem slices_BinarySearch_string_string.calls (k : Nat) (A0 : Option Addr) (c0 : Nat) (l0 : List ByteArray) (a1 : ByteArray) (r1 : Int) (r2 : Bool) (w : World) (hr0 : Kd.C Kd.string w A0 l0.length l0) (hc0 : l0.length ≤ c0) (h : slices_BinarySearch_string_string.f k l0 a1 = some (r1, r2)) :
  Calls Tryz.prog 41 #[.slice A0 l0.length c0, .string a1] w fun e w' => e = .returned (.tuple #[.int .i64 r1, .bool r2]) ∧ Drawn0 w w' := by
 have HR0 := Aside0.mk hr0
 have HC0 := Aside0.mk hc0
 clear hr0 hc0
 have H : (slices_BinarySearch_string_string.l0 k l0 a1 (l0.length : Int) 0 (l0.length : Int)) = some (r1, r2) := h
 clear h
 have H' := Aside0.mk H
 clear H
 go_enter Tryz.func41, Tryz.ntmps41
 go_wp2
 go_loopg [7, 8] k (fun kq v7 v8 w' => ∃ (x7_1 : Int) (x8_1 : Int), v7 = .int .i64 x7_1 ∧ v8 = .int .i64 x8_1 ∧ Aside0 (slices_BinarySearch_string_string.l0 kq l0 a1 (l0.length : Int) x7_1 x8_1 = some (r1, r2)) ∧ Aside0 (kq ≤ k) ∧ Drawn0 w w')
 case atStart => exact ⟨(0), ((l0.length : Int)), EB, EB, H', ⟨Nat.le_refl _⟩, by repeat (first | exact Drawn0.refl _ | apply Drawn0.step)⟩
 case round =>
  clear H'
  try clear p2
  obtain ⟨x7_1, x8_1, rfl, rfl, HA, HK1, ⟨m1, rfl⟩⟩ := hrel
  cases gk with
  | zero => exact absurd HA.out (by simp [slices_BinarySearch_string_string.l0])
  | succ k1 =>
   have H := HA.out
   clear HA
   simp only [slices_BinarySearch_string_string.l0] at H
   by_cases c3 : x7_1 < x8_1
   ·rw [if_pos c3] at H
    have c3b0 : decide (x7_1 < x8_1) = true := decide_eq_true c3
    clear c3
    obtain ⟨ji4, hji4⟩ : ∃ j_ : Int, (wrap64 ((IntKind.u64.wrap (wrap64 (x7_1 + x8_1))) / 2)) = j_ := ⟨_, rfl⟩
    replace H : (if 0 ≤ (ji4) then (if (ji4) < (l0.length : Int) then ((cmp_Less_string.f (rdOf ByteArray.empty l0 (ji4)) a1).bind fun t123 => (if t123 = true then (slices_BinarySearch_string_string.l0 k1 l0 a1 (l0.length : Int) (wrap64 ((ji4) + 1)) x8_1) else (slices_BinarySearch_string_string.l0 k1 l0 a1 (l0.length : Int) x7_1 ji4))) else (none)) else (none)) = some (r1, r2) := by first | (rw [hji4] at H; exact H) | (simp only [hji4] at H ⊢; exact H)
    have hji4w : (IntKind.i64.wrap ((IntKind.u64.wrap (wrap64 (x7_1 + x8_1))) / 2)) = ji4 := (i64_w _).trans hji4
    by_cases c5 : 0 ≤ (ji4)
    ·rw [if_pos c5] at H
     have c5b0 : decide (0 ≤ (ji4)) = true := decide_eq_true c5
     clear c5
     by_cases c6 : (ji4) < (l0.length : Int)
     ·rw [if_pos c6] at H
      have c6b0 : decide ((ji4) < (l0.length : Int)) = true := decide_eq_true c6
      clear c6
      replace H := Option.bind_eq_some_iff.mp H
      obtain ⟨t123, A70, H⟩ := H
      replace H : (if t123 = true then (slices_BinarySearch_string_string.l0 k1 l0 a1 (l0.length : Int) (wrap64 ((ji4) + 1)) x8_1) else (slices_BinarySearch_string_string.l0 k1 l0 a1 (l0.length : Int) x7_1 ji4)) = some (r1, r2) := H
      have A7 := Aside0.mk A70
      clear A70
      by_cases c8 : t123 = true
      ·subst c8
       have H1 : (slices_BinarySearch_string_string.l0 k1 l0 a1 (l0.length : Int) (wrap64 ((ji4) + 1)) x8_1) = some (r1, r2) := by rw [if_pos rfl] at H; exact H
       clear H
       have H := H1
       clear H1
       have H' := Aside0.mk H
       clear H
       have p122 : 0 ≤ ((ji4) : Int) := OD
       have q122 : (ji4) < (l0.length : Int) := OD
       obtain ⟨ad122, e122, hx122_0⟩ := Kd.at_string HR0.out (ji4) p122 q122
       cases e122
       replace p122 := eq_true p122
       replace q122 := eq_true q122
       go_wp2_with (first | ((with_reducible refine gate_callee (f := 73) rfl ?_); refine goesL_ (some 27) rfl rfl Tryz.func73 (by kernel_rfl) rfl #[.string (rdOf ByteArray.empty l0 (ji4)), .string a1] rfl (by (try simp only [List.map_toArray, List.map_cons, List.map_nil]); first | done | (simp only [hji4]; rfl) | rfl | (simp only [List.length_drop, List.length_take]; rfl)) ?_; (with_reducible refine (cmp_Less_string.calls (rdOf ByteArray.empty l0 (ji4)) a1 true _ A7.out).mono ?_); rintro e w' ⟨rfl, ⟨nd, rfl⟩⟩; refine ⟨_, rfl, ?_⟩))
       go_roundg k1
       case measure => have := HK1.out; omega
       case rel => exact ⟨(wrap64 ((ji4) + 1)), (x8_1), (by first | rfl | (simp; done) | (simp only [← hji4] <;> (first | rfl | simp)) | (simp [*]; done)), EB, H', ⟨by have := HK1.out; omega⟩, by repeat (first | exact Drawn0.refl _ | apply Drawn0.step)⟩
      ·replace c8 := Bool.eq_false_iff.mpr c8
       subst c8
       have H1 : (slices_BinarySearch_string_string.l0 k1 l0 a1 (l0.length : Int) x7_1 ji4) = some (r1, r2) := by rw [if_neg (show ¬ (false = true) by decide)] at H; exact H
       clear H
       have H := H1
       clear H1
       have H' := Aside0.mk H
       clear H
       have p122 : 0 ≤ ((ji4) : Int) := OD
       have q122 : (ji4) < (l0.length : Int) := OD
       obtain ⟨ad122, e122, hx122_0⟩ := Kd.at_string HR0.out (ji4) p122 q122
       cases e122
       replace p122 := eq_true p122
       replace q122 := eq_true q122
       go_wp2_with (first | ((with_reducible refine gate_callee (f := 73) rfl ?_); refine goesL_ (some 27) rfl rfl Tryz.func73 (by kernel_rfl) rfl #[.string (rdOf ByteArray.empty l0 (ji4)), .string a1] rfl (by (try simp only [List.map_toArray, List.map_cons, List.map_nil]); first | done | (simp only [hji4]; rfl) | rfl | (simp only [List.length_drop, List.length_take]; rfl)) ?_; (with_reducible refine (cmp_Less_string.calls (rdOf ByteArray.empty l0 (ji4)) a1 false _ A7.out).mono ?_); rintro e w' ⟨rfl, ⟨nd, rfl⟩⟩; refine ⟨_, rfl, ?_⟩))
       go_roundg k1
       case measure => have := HK1.out; omega
       case rel => exact ⟨(x7_1), (ji4), EB, (by first | rfl | (simp; done) | (simp only [← hji4] <;> (first | rfl | simp)) | (simp [*]; done)), H', ⟨by have := HK1.out; omega⟩, by repeat (first | exact Drawn0.refl _ | apply Drawn0.step)⟩
     ·rw [if_neg c6] at H
      exact absurd H (by simp)
    ·rw [if_neg c5] at H
     exact absurd H (by simp)
   ·rw [if_neg c3] at H
    have c3b0 : decide (x7_1 < x8_1) = false := decide_eq_false c3
    clear c3
    by_cases c9 : x7_1 < (l0.length : Int)
    ·rw [if_pos c9] at H
     have c9b0 : decide (x7_1 < (l0.length : Int)) = true := decide_eq_true c9
     clear c9
     by_cases c10 : 0 ≤ x7_1
     ·rw [if_pos c10] at H
      have c10b0 : decide (0 ≤ x7_1) = true := decide_eq_true c10
      clear c10
      by_cases c11 : x7_1 < (l0.length : Int)
      ·rw [if_pos c11] at H
       have c11b0 : decide (x7_1 < (l0.length : Int)) = true := decide_eq_true c11
       clear c11
       by_cases c12 : (rdOf ByteArray.empty l0 x7_1).toList = a1.toList
       ·rw [if_pos c12] at H
        have c12b0 : ((rdOf ByteArray.empty l0 x7_1).toList == a1.toList) = true := beq_iff_eq.mpr c12
        have c12b1 : ((rdOf ByteArray.empty l0 x7_1).toList != a1.toList) = false := bne_eq_false_iff_eq.mpr c12
        clear c12
        simp only [Option.some.injEq, Prod.mk.injEq] at H
        obtain ⟨rfl, rfl⟩ := H
        have p124 : 0 ≤ (x7_1 : Int) := OD
        have q124 : x7_1 < (l0.length : Int) := OD
        obtain ⟨ad124, e124, hx124_0⟩ := Kd.at_string HR0.out x7_1 p124 q124
        cases e124
        replace p124 := eq_true p124
        replace q124 := eq_true q124
        go_wp2
        go_ret2
        exact ⟨by first | rfl | (simp; done) | (simp [*]; done), by repeat (first | exact Drawn0.refl _ | apply Drawn0.step)⟩
       ·rw [if_neg c12] at H
        have c12b0 : ((rdOf ByteArray.empty l0 x7_1).toList == a1.toList) = false := beq_eq_false_iff_ne.mpr c12
        have c12b1 : ((rdOf ByteArray.empty l0 x7_1).toList != a1.toList) = true := bne_iff_ne.mpr c12
        replace H := Option.bind_eq_some_iff.mp H
        obtain ⟨t126, A130, H⟩ := H
        replace H : (if t126 = true then ((slices_isNaN_string.f a1).bind fun t127 => (some (x7_1, t127))) else (some (x7_1, false))) = some (r1, r2) := H
        have A13 := Aside0.mk A130
        clear A130
        by_cases c14 : t126 = true
        ·subst c14
         have H1 : ((slices_isNaN_string.f a1).bind fun t127 => (some (x7_1, t127))) = some (r1, r2) := by rw [if_pos rfl] at H; exact H
         clear H
         have H := H1
         clear H1
         replace H := Option.bind_eq_some_iff.mp H
         obtain ⟨t127, A150, H⟩ := H
         replace H : (some (x7_1, t127)) = some (r1, r2) := H
         have A15 := Aside0.mk A150
         clear A150
         simp only [Option.some.injEq, Prod.mk.injEq] at H
         obtain ⟨rfl, rfl⟩ := H
         have p124 : 0 ≤ (x7_1 : Int) := OD
         have q124 : x7_1 < (l0.length : Int) := OD
         obtain ⟨ad124, e124, hx124_0⟩ := Kd.at_string HR0.out x7_1 p124 q124
         cases e124
         replace p124 := eq_true p124
         replace q124 := eq_true q124
         have p125 : 0 ≤ (x7_1 : Int) := OD
         have q125 : x7_1 < (l0.length : Int) := OD
         obtain ⟨ad125, e125, hx125_0⟩ := Kd.at_string HR0.out x7_1 p125 q125
         obtain rfl : ad124 = ad125 := (by injection e125)
         replace p125 := eq_true p125
         replace q125 := eq_true q125
         go_wp2_with (first | (go_at_call 74; (with_reducible refine (slices_isNaN_string.calls (rdOf ByteArray.empty l0 x7_1) true _ A13.out).mono ?_); rintro e w' ⟨rfl, ⟨nd, rfl⟩⟩) | (go_at_call 74; (with_reducible refine (slices_isNaN_string.calls a1 t127 _ A15.out).mono ?_); rintro e w' ⟨rfl, ⟨nd, rfl⟩⟩))
         go_ret2
         exact ⟨by first | rfl | (simp; done) | (simp [*]; done), by repeat (first | exact Drawn0.refl _ | apply Drawn0.step)⟩
        ·replace c14 := Bool.eq_false_iff.mpr c14
         subst c14
         have H1 : (some (x7_1, false)) = some (r1, r2) := by rw [if_neg (show ¬ (false = true) by decide)] at H; exact H
         clear H
         have H := H1
         clear H1
         simp only [Option.some.injEq, Prod.mk.injEq] at H
         obtain ⟨rfl, rfl⟩ := H
         have p124 : 0 ≤ (x7_1 : Int) := OD
         have q124 : x7_1 < (l0.length : Int) := OD
         obtain ⟨ad124, e124, hx124_0⟩ := Kd.at_string HR0.out x7_1 p124 q124
         cases e124
         replace p124 := eq_true p124
         replace q124 := eq_true q124
         have p125 : 0 ≤ (x7_1 : Int) := OD
         have q125 : x7_1 < (l0.length : Int) := OD
         obtain ⟨ad125, e125, hx125_0⟩ := Kd.at_string HR0.out x7_1 p125 q125
         obtain rfl : ad124 = ad125 := (by injection e125)
         replace p125 := eq_true p125
         replace q125 := eq_true q125
         go_wp2_with (first | (go_at_call 74; (with_reducible refine (slices_isNaN_string.calls (rdOf ByteArray.empty l0 x7_1) false _ A13.out).mono ?_); rintro e w' ⟨rfl, ⟨nd, rfl⟩⟩))
         go_ret2
         exact ⟨by first | rfl | (simp; done) | (simp [*]; done), by repeat (first | exact Drawn0.refl _ | apply Drawn0.step)⟩
      ·rw [if_neg c11] at H
       exact absurd H (by simp)
     ·rw [if_neg c10] at H
      exact absurd H (by simp)
    ·rw [if_neg c9] at H
     have c9b0 : decide (x7_1 < (l0.length : Int)) = false := decide_eq_false c9
     clear c9
     simp only [Option.some.injEq, Prod.mk.injEq] at H
     obtain ⟨rfl, rfl⟩ := H
     go_wp2
     go_ret2
     exact ⟨by first | rfl | (simp; done) | (simp [*]; done), by repeat (first | exact Drawn0.refl _ | apply Drawn0.step)⟩

/-! ### bits_Len: function 75 -/
def bits_Len.f (a0 : Int) : Option (Int) := if 0 ≤ a0 then (if a0 ≤ 18446744073709551615 then some (Lib.bitLen a0.toNat : Int) else none) else none
theorem bits_Len.calls (a0 : Int) (r : Int) (w : World) (h : bits_Len.f a0 = some r) :
  Calls Tryz.prog 75 #[.int .u64 a0] w fun e w' => e = .returned (.int .i64 r) ∧ Drawn0 w w' := by
 unfold bits_Len.f at h
 by_cases h0 : 0 ≤ a0
 ·rw [if_pos h0] at h
  by_cases h1 : a0 ≤ 18446744073709551615
  ·rw [if_pos h1] at h
   obtain rfl := Option.some.inj h
   exact (Go.Proofs.Tryz.bits_Len a0 w h0 h1).mono fun e w' ⟨he, hw⟩ => ⟨he, by rw [hw]; exact Drawn0.refl _⟩
  ·rw [if_neg h1] at h; cases h
 ·rw [if_neg h0] at h; cases h

/-! ### texts_width: function 42 -/
def texts_width.f (a0 : Int) : Option (Int) := (bits_Len.f (IntKind.u64.wrap (mx (wrap64 (a0 - 1)) 0))).bind fun t128 => (some t128)
set_option maxHeartbeats 8000000 in
set_option maxRecDepth 100000 in
theorem texts_width.calls (a0 : Int) (r : Int) (w : World) (h : texts_width.f a0 = some r) :
  Calls Tryz.prog 42 #[.int .i64 a0] w fun e w' => e = .returned (.int .i64 r) ∧ Below w.heap.size w w' := by
 have HB := Aside0.mk (Below.refl w.heap.size w)
 have H : ((bits_Len.f (IntKind.u64.wrap (mx (wrap64 (a0 - 1)) 0))).bind fun t128 => (some t128)) = some r := h
 clear h
 obtain ⟨ji2, hji2⟩ : ∃ j_ : Int, (mx (wrap64 (a0 - 1)) 0) = j_ := ⟨_, rfl⟩
 replace H : ((bits_Len.f (IntKind.u64.wrap (ji2))).bind fun t128 => (some t128)) = some r := by first | (rw [hji2] at H; exact H) | (simp only [hji2] at H ⊢; exact H)
 (try (have hji2l : 0 ≤ ji2 := by (rw [← hji2]; unfold mx; (repeat' split) <;> omega)))
 (try (have hji2m : 0 ≤ ji2 := by omega))
 have hji2_ : (if (wrap64 (a0 - 1)) < 0 then 0 else (wrap64 (a0 - 1))) = ji2 := hji2
 replace H := Option.bind_eq_some_iff.mp H
 obtain ⟨t128, A30, H⟩ := H
 replace H : (some t128) = some r := H
 have A3 := Aside0.mk A30
 clear A30
 obtain rfl := Option.some.inj H
 go_enter Tryz.func42, Tryz.ntmps42
 go_wp2_with (first | ((with_reducible refine gate_callee (f := 75) rfl ?_); refine goesL_ (some 7) rfl rfl Tryz.func75 (by kernel_rfl) rfl #[.int .u64 (IntKind.u64.wrap (ji2))] rfl (by (try simp only [List.map_toArray, List.map_cons, List.map_nil]); first | done | (simp only [hji2]; rfl) | rfl | (simp only [List.length_drop, List.length_take]; rfl)) ?_; (with_reducible refine (bits_Len.calls (IntKind.u64.wrap (ji2)) t128 _ A3.out).mono ?_); rintro e w' ⟨rfl, ⟨nd, rfl⟩⟩; refine ⟨_, rfl, ?_⟩))
 go_ret
 exact ⟨by first | rfl | (simp [errW_none, errW_some] <;> rfl) | (simp only [← hji2]; first | rfl | (simp [errW_none, errW_some] <;> rfl)) | (simp [*, errW_none, errW_some] <;> rfl), BU HB.out⟩

/-! ### bits_Size: function 76 -/
def bits_Size.f (a0 : Int) (a1 : Int) : Option (Int) := if a0 < 0 then (some (-1)) else (if a0 > 65536 then (some (-1)) else (if a1 < 0 then (some (-1)) else (if a1 > 64 then (some (-1)) else (some (wrap64 (Int.tdiv (wrap64 ((wrap64 (a0 * a1)) + 7)) 8))))))
set_option maxHeartbeats 8000000 in
set_option maxRecDepth 100000 in
theorem bits_Size.calls (a0 : Int) (a1 : Int) (r : Int) (w : World) (h : bits_Size.f a0 a1 = some r) :
  Calls Tryz.prog 76 #[.int .i64 a0, .int .i64 a1] w fun e w' => e = .returned (.int .i64 r) ∧ Drawn0 w w' := by
 have H : (if a0 < 0 then (some (-1)) else (if a0 > 65536 then (some (-1)) else (if a1 < 0 then (some (-1)) else (if a1 > 64 then (some (-1)) else (some (wrap64 (Int.tdiv (wrap64 ((wrap64 (a0 * a1)) + 7)) 8))))))) = some r := h
 clear h
 by_cases c3 : a0 < 0
 ·rw [if_pos c3] at H
  have c3b0 : decide (a0 < 0) = true := decide_eq_true c3
  clear c3
  obtain rfl := Option.some.inj H
  go_enter Tryz.func76, Tryz.ntmps76
  go_wp2
  go_ret
  exact ⟨by first | rfl | (simp; done) | (simp [*]; done), by repeat (first | exact Drawn0.refl _ | apply Drawn0.step)⟩
 ·rw [if_neg c3] at H
  have c3b0 : decide (a0 < 0) = false := decide_eq_false c3
  clear c3
  by_cases c4 : a0 > 65536
  ·rw [if_pos c4] at H
   have c4b0 : decide (65536 < a0) = true := decide_eq_true c4
   clear c4
   obtain rfl := Option.some.inj H
   go_enter Tryz.func76, Tryz.ntmps76
   go_wp2
   go_ret
   exact ⟨by first | rfl | (simp; done) | (simp [*]; done), by repeat (first | exact Drawn0.refl _ | apply Drawn0.step)⟩
  ·rw [if_neg c4] at H
   have c4b0 : decide (65536 < a0) = false := decide_eq_false c4
   clear c4
   by_cases c5 : a1 < 0
   ·rw [if_pos c5] at H
    have c5b0 : decide (a1 < 0) = true := decide_eq_true c5
    clear c5
    obtain rfl := Option.some.inj H
    go_enter Tryz.func76, Tryz.ntmps76
    go_wp2
    go_ret
    exact ⟨by first | rfl | (simp; done) | (simp [*]; done), by repeat (first | exact Drawn0.refl _ | apply Drawn0.step)⟩
   ·rw [if_neg c5] at H
    have c5b0 : decide (a1 < 0) = false := decide_eq_false c5
    clear c5
    by_cases c6 : a1 > 64
    ·rw [if_pos c6] at H
     have c6b0 : decide (64 < a1) = true := decide_eq_true c6
     clear c6
     obtain rfl := Option.some.inj H
     go_enter Tryz.func76, Tryz.ntmps76
     go_wp2
     go_ret
     exact ⟨by first | rfl | (simp; done) | (simp [*]; done), by repeat (first | exact Drawn0.refl _ | apply Drawn0.step)⟩
    ·rw [if_neg c6] at H
     have c6b0 : decide (64 < a1) = false := decide_eq_false c6
     clear c6
     obtain rfl := Option.some.inj H
     go_enter Tryz.func76, Tryz.ntmps76
     go_wp2
     go_ret
     exact ⟨by first | rfl | (simp; done) | (simp [*]; done), by repeat (first | exact Drawn0.refl _ | apply Drawn0.step)⟩

/-! ### bits_fits: function 77 -/
def bits_fits.f (a0 : Int) (a1 : Int) : Option (Bool) := if a1 = 64 then (some true) else (if 0 ≤ (IntKind.u64.wrap (a1)) then (some ((shr .u64 a0 (IntKind.u64.wrap (a1))) == 0)) else (none))
set_option maxHeartbeats 8000000 in
set_option maxRecDepth 100000 in
theorem bits_fits.calls (a0 : Int) (a1 : Int) (r : Bool) (w : World) (h : bits_fits.f a0 a1 = some r) :
  Calls Tryz.prog 77 #[.int .u64 a0, .int .i64 a1] w fun e w' => e = .returned (.bool r) ∧ Drawn0 w w' := by
 have H : (if a1 = 64 then (some true) else (if 0 ≤ (IntKind.u64.wrap (a1)) then (some ((shr .u64 a0 (IntKind.u64.wrap (a1))) == 0)) else (none))) = some r := h
 clear h
 by_cases c3 : a1 = 64
 ·rw [if_pos c3] at H
  have c3b0 : (a1 == 64) = true := beq_iff_eq.mpr c3
  have c3b1 : (a1 != 64) = false := bne_eq_false_iff_eq.mpr c3
  clear c3
  obtain rfl := Option.some.inj H
  go_enter Tryz.func77, Tryz.ntmps77
  go_wp2
  go_ret
  exact ⟨by first | rfl | (simp; done) | (simp [*]; done), by repeat (first | exact Drawn0.refl _ | apply Drawn0.step)⟩
 ·rw [if_neg c3] at H
  have c3b0 : (a1 == 64) = false := beq_eq_false_iff_ne.mpr c3
  have c3b1 : (a1 != 64) = true := bne_iff_ne.mpr c3
  obtain ⟨ji4, hji4⟩ : ∃ j_ : Int, (IntKind.u64.wrap (a1)) = j_ := ⟨_, rfl⟩
  replace H : (if 0 ≤ (ji4) then (some ((shr .u64 a0 (ji4)) == 0)) else (none)) = some r := by first | (rw [hji4] at H; exact H) | (simp only [hji4] at H ⊢; exact H)
  by_cases c5 : 0 ≤ (ji4)
  ·rw [if_pos c5] at H
   have c5b0 := eq_true c5
   have c5b1 : decide (0 ≤ (ji4)) = true := decide_eq_true c5
   clear c5
   obtain ⟨ji6, hji6⟩ : ∃ j_ : Int, (shr .u64 a0 (ji4)) = j_ := ⟨_, rfl⟩
   replace H : (some ((ji6) == 0)) = some r := by first | (rw [hji6] at H; exact H) | (simp only [hji6] at H ⊢; exact H)
   have hji6_ : (a0 / 2 ^ min (ji4).toNat 64) = ji6 := hji6
   have hji6z : (ji4) ≤ 64 → (a0 / 2 ^ (ji4).toNat) = ji6 := shr_small hji6
   obtain rfl := Option.some.inj H
   go_enter Tryz.func77, Tryz.ntmps77
   go_wp2
   go_ret
   exact ⟨by first | rfl | (simp; done) | (simp only [← hji4, ← hji6] <;> (first | rfl | simp)) | (simp [*]; done), by repeat (first | exact Drawn0.refl _ | apply Drawn0.step)⟩
  ·rw [if_neg c5] at H
   exact absurd H (by simp)

end Go.Proofs.YtefcchpjbojdkaaGreatDoor.PChunkPuts
