/- WRITTEN BY A PROGRAM of this session (wip/tool: a turned copy of the printer), out of the translation: Lean functions with the answers of the Go functions, and the proofs that the Go code comes to them. -/
import Derived.Test.YtehbkhddbdgbcaaGreatDoorPChunkBackx1
import Derived.Test.YtehbkhddbdgbcaaGreatDoorPChunkBackx2
import Derived.Test.YtehbkhddbdgbcaaGreatDoorPChunkBackx6
import Derived.Test.YtehbkhddbdgbcaaGreatDoorPChunkBackx12
namespace Go.Proofs.YtehbkhddbdgbcaaGreatDoor.PChunkBack
open Go.RowKit Go.Proofs.YtehbkhddbdgbcaaGreatDoorW.PrintWords Go.Proofs.YtehbkhddbdgbcaaGreatDoorW.PrintLast Go.Proofs.YtehbkhddbdgbcaaGreatDoorW.PrintMore
attribute [local go_sem] max2_int min2_int max_two min_two max_three min_three max_four min_four   -- for this text's walks alone
set_option linter.unusedVariables false
set_option linter.unusedSimpArgs false

/-! ### texts_List: function 58 -/
/-- A text as its list of bytes, and back. -/
def texts_List.ls (l : List ByteArray) : List (List UInt8) := l.map (·.data.toList)
def texts_List.bs (l : List (List UInt8)) : List ByteArray := l.map fun s => ⟨s.toArray⟩
def texts_List.srt (l0 : List ByteArray) : List (List UInt8) := (texts_List.ls l0).mergeSort fun x y => decide (x ≤ y)
def texts_List.f (l0 : List ByteArray) : Option (List ByteArray) := if l0.length * 16 ≤ 140737488355328 then some (texts_List.bs (Go.Lib.compact (texts_List.srt l0))) else none
theorem texts_List.ls_enc (l : List ByteArray) : (texts_List.ls l).map encStr = l.map Value.string := Go.Lib.map_encStr l
theorem texts_List.bs_enc (l : List (List UInt8)) : (texts_List.bs l).map Value.string = l.map encStr := by simp [texts_List.bs, encStr, Function.comp_def]
theorem texts_List.eql (P : Program) (T : TypeId) : EqlAt P T encStr (fun x y => decide (x = y)) :=
 ⟨fun x y w => by
  have h := (EqlAt.string P T).1 ⟨x.toArray⟩ ⟨y.toArray⟩ w; simp only [ByteArray.toList_eq] at h
  exact h.trans (by by_cases e : x = y <;> simp [e]), fun op a b x y w => GuardAt.string P T op a b ⟨x.toArray⟩ ⟨y.toArray⟩ w⟩
theorem texts_List.neq (P : Program) (T : TypeId) : NeqAt P T encStr (fun x y => decide (x = y)) :=
 ⟨fun x y w => by
  have h := (NeqAt.string P T).1 ⟨x.toArray⟩ ⟨y.toArray⟩ w; simp only [ByteArray.toList_eq] at h
  exact h.trans (by by_cases e : x = y <;> simp [e]), fun op a b x y w => GuardAt.string P T op a b ⟨x.toArray⟩ ⟨y.toArray⟩ w⟩
theorem texts_List.grow_below (w : World) (os : Array Obj) : Below w.heap.size w (Go.Sort.grow w os) := ⟨rfl, rfl, rfl, by simp, fun k hk => Go.Sort.heap_grow_old w os hk⟩
/-- What the three calls leave, outside the walk. -/
theorem texts_List.left {w w1 : World} {g cap nn q : Nat} {os : Array Obj} {l0 : List ByteArray} {ts : List (List UInt8)} (hl2 : ts.length = l0.length) (hR : Kd.string.R 9 w1 w.heap.size (fun _ => True) (.slice (some ⟨g, 0, none⟩) l0.length cap) l0) (hbel : Below w.heap.size w w1) (hbg : w.heap.size ≤ g) (hgl : g < w1.heap.size) :
  Kd.string.R 9 (Go.Sort.putRow encStr (Go.Sort.ahead (Go.Sort.grow (Go.Sort.putRow encStr (Go.Sort.ahead w1 nn) g 0 ts.toArray) os) q) g 0 (Go.Lib.compact ts ++ List.replicate (l0.length - (Go.Lib.compact ts).length) []).toArray) w.heap.size (fun _ => True) (.slice (some ⟨g, 0, none⟩) (Go.Lib.compact ts).length cap) (texts_List.bs (Go.Lib.compact ts)) ∧
  Below w.heap.size w (Go.Sort.putRow encStr (Go.Sort.ahead (Go.Sort.grow (Go.Sort.putRow encStr (Go.Sort.ahead w1 nn) g 0 ts.toArray) os) q) g 0 (Go.Lib.compact ts ++ List.replicate (l0.length - (Go.Lib.compact ts).length) []).toArray) := by
 have hle := Go.Lib.compact_length_le ts
 have hown : w1.ownsRow w.heap.size 9 1 (.slice (some ⟨g, 0, none⟩) l0.length cap) l0.length ((texts_List.ls l0).map encStr) := by rw [texts_List.ls_enc]; exact Kd.own_of_R hR
 have hls : (texts_List.ls l0).length = l0.length := by simp [texts_List.ls]
 generalize texts_List.ls l0 = ss at *; have h1 := Go.Lib.ownsRow_putRow (q := nn) (k := l0.length) (ys := ts) hown hl2 (Nat.le_refl _); rw [← hl2, List.take_length] at h1; have hb1 := Go.Lib.below_putRow (enc := encStr) (q := nn) (d := ts.toArray) hbel hbg; have h2 := pw_own_below h1 (texts_List.grow_below _ os); have hb2 := hb1.trans ((texts_List.grow_below (Go.Sort.putRow encStr (Go.Sort.ahead w1 nn) g 0 ts.toArray) os).mono (by simpa using hbel.size)); rw [hl2] at h2 hle; have h3 := Go.Lib.ownsRow_putRow (q := q) (k := (Go.Lib.compact ts).length) (ys := Go.Lib.compact ts ++ List.replicate (l0.length - (Go.Lib.compact ts).length) []) h2 (by simp; omega) hle; rw [List.take_left, ← texts_List.bs_enc] at h3
 have hbl : (texts_List.bs (Go.Lib.compact ts)).length = (Go.Lib.compact ts).length := by simp [texts_List.bs]
 rw [← hbl] at h3; rw [hbl] at h3; refine ⟨?_, Go.Lib.below_putRow hb2 hbg⟩; have h4 := Kd.R_of_own (xs := texts_List.bs (Go.Lib.compact ts)) (enc := Value.string) (h1 := fun _ => rfl) (by rw [hbl]; exact h3) (fun _ _ => trivial)
 first | exact h4 | (rw [hbl] at h4; exact h4)
theorem texts_List.compact_nil (w : World) : Calls Tryz.prog 88 #[.slice none 0 0] w fun e w' => e = .returned (.slice none 0 0) ∧ w' = w := by
 go_enter Tryz.func88, Tryz.ntmps88; go_wp2
 go_ret
 exact ⟨rfl, rfl⟩
set_option maxHeartbeats 4000000 in
theorem texts_List.calls (A0 : Option Addr) (c0 : Nat) (l0 : List ByteArray) (r : List ByteArray) (w : World) (hr0 : Kd.string.C w A0 l0.length l0) (hc0 : l0.length ≤ c0) (h : texts_List.f l0 = some r) :
  Calls Tryz.prog 58 #[.slice A0 l0.length c0] w fun e w' => ∃ v0_ : Value, e = .returned v0_ ∧ Kd.string.R 9 w' w.heap.size (fun _ => True) v0_ r ∧ Below w.heap.size w w' := by
 unfold texts_List.f at h
 by_cases hl : l0.length * 16 ≤ 140737488355328
 case neg => rw [if_neg hl] at h; cases h
 rw [if_pos hl] at h; obtain rfl := Option.some.inj h; have hcl := slices_Clone_string_string.calls A0 c0 l0 l0 w hr0 hc0 (by unfold slices_Clone_string_string.f; rw [if_pos hl]); clear hr0 h; go_enter Tryz.func58, Tryz.ntmps58
 go_wp2_with (go_at_call 86; refine hcl.mono ?_; rintro e w1 ⟨v1, rfl, hR, hbel⟩)
 have hown : w1.ownsRow w.heap.size 9 1 v1 l0.length ((texts_List.ls l0).map encStr) := by rw [texts_List.ls_enc]; exact Kd.own_of_R hR
 by_cases hv : v1 = .slice none 0 0
 ·subst hv
  have h0 : l0 = [] := by
   rcases hown.2 with ⟨_, h0⟩ | ⟨g, cap, cur, e0, _⟩
   ·exact List.eq_nil_of_length_eq_zero h0
   ·cases e0
  subst h0
  go_wp2_with (first | (go_at_call 87; refine (Go.Proofs.Tryz.slices_Sort_string_none none 0 w1).mono ?_; rintro e w2 ⟨rfl, rfl⟩) | (go_at_call 88; refine (texts_List.compact_nil w2).mono ?_; rintro e w3 ⟨rfl, rfl⟩))
  go_ret
  exact ⟨_, rfl, by rw [show texts_List.bs (Go.Lib.compact (texts_List.srt ([] : List ByteArray))) = [] from by simp [texts_List.bs, texts_List.srt, texts_List.ls, Go.Lib.compact, Go.Lib.compactUpTo]]; exact hR, hbel⟩
 ·obtain ⟨g, cap, rfl, hbg, hgl, hncap, hcm, _, hH⟩ := Go.Lib.holds_of_ownsRow hown hv
  have hlen : l0.length < 4611686018427387904 := by omega
  have hlsl : (texts_List.ls l0).length = l0.length := by simp [texts_List.ls]
  have hsort := Go.Proofs.Tryz.slices_Sort_string g 0 cap (texts_List.ls l0) w1 hH hgl (by rw [hlsl]; exact hlen); rw [hlsl] at hsort; have hl2 : (texts_List.srt l0).length = l0.length := (List.length_mergeSort _).trans hlsl
  have hleft : ∀ nn q os, _ := fun nn q os => texts_List.left (nn := nn) (q := q) (os := os) hl2 hR hbel hbg hgl
  obtain ⟨ts, hts⟩ : ∃ ts, ts = texts_List.srt l0 := ⟨_, rfl⟩
  have hts2 : (texts_List.ls l0).mergeSort (fun x y => decide (x ≤ y)) = ts := hts.symm; rw [hts2] at hsort; rw [← hts] at hleft hl2; have HT := Aside0.mk hts; clear hts hts2
  have hcomp : ∀ nn os, Calls Tryz.prog 88 #[.slice (some ⟨g, 0, none⟩) l0.length cap] (Go.Sort.grow (Go.Sort.putRow encStr (Go.Sort.ahead w1 nn) g 0 ts.toArray) os) fun e w' => e = .returned (.slice (some ⟨g, 0, none⟩) (Go.Lib.compact ts).length cap) ∧ ∃ q, w' = Go.Sort.putRow encStr (Go.Sort.ahead (Go.Sort.grow (Go.Sort.putRow encStr (Go.Sort.ahead w1 nn) g 0 ts.toArray) os) q) g 0 (Go.Lib.compact ts ++ List.replicate (l0.length - (Go.Lib.compact ts).length) []).toArray := by
   intro nn os
   have hH2 : Go.Sort.Holds encStr (Go.Sort.grow (Go.Sort.putRow encStr (Go.Sort.ahead w1 nn) g 0 ts.toArray) os) g 0 ts.toArray :=
    Go.Sort.holds_grow _ _ os g 0 _ (by simpa using hgl) (Go.Sort.holds_putRow _ _ g 0 _ _ (Go.Sort.holds_ahead _ w1 nn g 0 _ hH) (by simp [hl2, hlsl]))
   have := Go.Proofs.Tryz.slices_Compact_f88 encStr (fun _ => rfl) (texts_List.eql _ _) (texts_List.neq _ _) [] (fun w => by kernel_rfl) g 0 cap ts.toArray _ hH2 (by simp; omega) (by simp; omega); rw [List.size_toArray, hl2] at this
   have e1 : Go.Lib.compactUpTo ts.toArray l0.length = Go.Lib.compact ts := by unfold Go.Lib.compact; rw [hl2]
   rw [e1] at this; exact this
  have HL := Aside0.mk hleft; clear hleft hH hR hown hbel hcl
  go_wp2_with (first | (go_at_call 87; refine hsort.mono ?_; rintro e w2 ⟨rfl, nn, os, rfl⟩) | (go_at_call 88; refine (hcomp nn os).mono ?_; rintro e w3 ⟨rfl, q, rfl⟩))
  go_ret
  exact ⟨_, rfl, by rw [← HT.out]; exact (HL.out nn q os).1, (HL.out nn q os).2⟩

/-! ### num_PutBlob: function 60 -/
def num_PutBlob.f (k : Nat) (l0 : List Int) (l1 : List Int) : Option (List Int) := (num_PutVar.f k l0 (IntKind.u64.wrap ((l1.length : Int)))).bind fun t495 => (if t495.length + l1.length < 140737488355328 then (some (t495 ++ l1)) else (none))
set_option maxHeartbeats 8000000 in
set_option maxRecDepth 100000 in
theorem num_PutBlob.calls (k : Nat) (P0_ : Nat → Prop) (u9000_ : Value) (l0 : List Int) (A1 : Option Addr) (c1 : Nat) (l1 : List Int) (r : List Int) (w0 w : World) (hB : Below w0.heap.size w0 w) (ho0 : Kd.R (Kd.int .u8) 5 w w0.heap.size P0_ u9000_ l0) (hr1 : ∀ W_, Kept w W_ (fun k_ => P0_ k_) → Kd.C (Kd.int .u8) W_ A1 l1.length l1) (hc1 : l1.length ≤ c1) (h : num_PutBlob.f k l0 l1 = some r) :
  Calls Tryz.prog 60 #[u9000_, .slice A1 l1.length c1] w fun e w' => ∃ v0_ : Value, e = .returned (v0_) ∧ Kd.R (Kd.int .u8) 5 w' w0.heap.size (fun k_ => (P0_ k_ ∨ w.heap.size ≤ k_)) v0_ r ∧ Below w0.heap.size w0 w' ∧ Kept w w' (fun k_ => P0_ k_) := by
 have HO0 := Aside0.mk (show Kd.R (Kd.int .u8) 5 w w0.heap.size (fun k_ => (P0_ k_ ∨ w.heap.size ≤ k_)) u9000_ l0 from Kd.R_mono ho0 (fun k_ hk => (.inl hk))); have HR1 := Aside0.mk hr1; have HC1 := Aside0.mk hc1; clear hr1 hc1; have HK := Aside0.mk (Kept.refl w (fun k_ => P0_ k_)); have HW0 := Aside0.mk hB.size; have HB := Aside0.mk hB; clear hB; have H : ((num_PutVar.f k l0 (IntKind.u64.wrap ((l1.length : Int)))).bind fun t495 => (if t495.length + l1.length < 140737488355328 then (some (t495 ++ l1)) else (none))) = some r := h; clear h; replace H := Option.bind_eq_some_iff.mp H; obtain ⟨t495, A30, H⟩ := H; (try dsimp only at H); have A3 := Aside0.mk A30; clear A30
 by_cases c4 : t495.length + l1.length < 140737488355328
 ·rw [if_pos c4] at H; have LMc4 := Aside0.mk c4; clear c4
  obtain ⟨y498, hy498⟩ : ∃ y_ : List Int, y_ = (t495 ++ l1) := ⟨_, rfl⟩
  replace H : (some y498) = some r := HY hy498 H; have Ny498 := Aside0.mk hy498; clear hy498; obtain rfl := Option.some.inj H; obtain ⟨Ao5, co5, eo5⟩ := Kd.R_slice HO0.out; subst eo5; go_enter Tryz.func60, Tryz.ntmps60
  go_wp2_with (first | (go_at_call 59; (with_reducible refine (num_PutVar.calls k (fun k_ => some k_ = (.slice Ao5 l0.length co5 : Value).ownBlock) (.slice Ao5 l0.length co5) l0 (IntKind.u64.wrap ((l1.length : Int))) t495 w0 _ ?side1 ?side2 A3.out).mono ?_); (case side1 => exact BU HB.out); (case side2 => exact Kd.R_tight rfl HO0.out); rintro e w6 ⟨v496, rfl, ho0, hb, hkp⟩; have HO497 := Aside0.mk (Kd.R_mono (ok' := fun k_ => (P0_ k_ ∨ w.heap.size ≤ k_)) ho0 (fun k_ hk_ => Or.elim hk_ (fun hs_ => (HO0.out.1 k_ (hs_).symm)) (fun hn_ => (.inr (Nat.le_trans (by first | exact HK.out.1 | exact (show Kept w _ (fun k_ => P0_ k_) from by repeat (first | (with_reducible first | exact HK.out | apply Kept.alloc | apply Kept.drewN | apply Kept.drew) | exact HK.out)).1) hn_))))); replace HK := Aside0.mk (Kept.then_ (S := (fun k_ => P0_ k_)) (by repeat (first | (with_reducible first | exact HK.out | apply Kept.alloc | apply Kept.drewN | apply Kept.drew) | exact HK.out)) hkp (fun k_ hs_ => (fun e_ => (HO0.out.1 k_ e_.symm)) hs_)); replace HB := Aside0.mk hb; clear HO0; (try clear hb); (try clear hkp); (try clear ho0)) | ((with_reducible refine gate_builtin (b := .append) (xs := #[.tmp 9, .tmp 10]) rfl ?_); at_builtin; refine Kd.R_append_rows (Kd.int .u8) (w0 := w0) w0.heap.size rfl (.tmp 9) (.tmp 10) 25 5 (.int .u8 0) 1 rfl Tryz.underlying25 info5 rfl (by decide) (by omega) v496 t495 l1 _ _ _ (fun k_ => (P0_ k_ ∨ w.heap.size ≤ k_)) (fun _ => False) rfl rfl ?aO ?aR (fun _ _ h => h) (fun _ h => h.elim) ?aF ?aB ?aS ?aL ?_; (case aR => exact Kd.C_kept_now HR1.out (by repeat (first | (with_reducible first | exact HK.out | apply Kept.alloc | apply Kept.drewN | apply Kept.drew) | exact HK.out))); (case aB => exact (BU HB.out)); (case aF => exact (fun k_ hk => (.inr (Nat.le_trans (by first | exact HK.out.1 | exact (show Kept w _ (fun k_ => P0_ k_) from by repeat (first | (with_reducible first | exact HK.out | apply Kept.alloc | apply Kept.drewN | apply Kept.drew) | exact HK.out)).1) hk)))); (case aO => exact (RU HO497.out)); (case aS => exact (below_size (BU HB.out))); (case aL => have := LMc4.out; omega); intro v499 w7 ho hb hg hat; rw [← Ny498.out] at ho; replace HB := Aside0.mk hb; replace HK := Aside0.mk (Kept.of_grown (S := (fun k_ => P0_ k_)) hg (by repeat (first | (with_reducible first | exact HK.out | apply Kept.alloc | apply Kept.drewN | apply Kept.drew) | exact HK.out)) (fun k_ e_ => (HO497.out.1 k_ e_))); have HO500 := Aside0.mk ho; clear HO497; clear ho hb hg hat))
  go_ret
  exact ⟨_, ER, RU HO500.out, BU HB.out, by repeat (first | (with_reducible first | exact HK.out | apply Kept.alloc | apply Kept.drewN | apply Kept.drew) | exact HK.out)⟩
 ·rw [if_neg c4] at H; exact absurd H (by simp)

/-- The bytes of a string, as numbers. -/
def num_PutBlobS.bs (s : ByteArray) : List Int := s.data.toList.map fun b => (b.toNat : Int)
def num_PutBlobS.f (k : Nat) (l0 : List Int) (s : ByteArray) : Option (List Int) := num_PutBlob.f k l0 (num_PutBlobS.bs s)
theorem num_PutBlobS.bs_length (s : ByteArray) : (num_PutBlobS.bs s).length = s.size := by unfold num_PutBlobS.bs; rw [List.length_map, Array.length_toList]; rfl
theorem num_PutBlobS.below (w : World) (e : TypeId) (s : ByteArray) : Below w.heap.size w (Go.Lib.bytesWorld w e s) :=
 ⟨rfl, rfl, rfl, by rw [Go.Lib.bytesWorld_size]; omega, fun j hj => Go.Lib.bytesWorld_at_old w e s j hj⟩
theorem num_PutBlobS.reads (w w1 : World) (e : TypeId) (s : ByteArray) (hs : s.size ≤ 9223372036854775807) (h : w1.heap[w.heap.size]? = (Go.Lib.bytesWorld w e s).heap[w.heap.size]?) : (Kd.int .u8).C w1 (some ⟨w.heap.size, 0, none⟩) (num_PutBlobS.bs s).length (num_PutBlobS.bs s) := by
 rw [num_PutBlobS.bs_length]; refine ⟨num_PutBlobS.bs_length s, hs, fun hn => ⟨_, rfl, fun j p hj => ⟨[.int .u8 p], rfl, rfl, fun i u hu => ?_⟩⟩⟩
 have hj' : j < s.size := by have := (List.getElem?_eq_some_iff.1 hj).1; rw [num_PutBlobS.bs_length] at this; exact this
 have hc := Go.Lib.bytesWorld_cell w e s j hj'
 have hp : p = ((s.data.toList.getD j 0).toNat : Int) := by
  have hj2 : j < s.data.toList.length := by rw [Array.length_toList]; exact hj'
  simp only [num_PutBlobS.bs, List.getElem?_map, List.getElem?_eq_getElem hj2, Option.map_some, Option.some.injEq] at hj; rw [List.getD_eq_getElem?_getD, List.getElem?_eq_getElem hj2]; exact hj.symm
 rcases i with _ | i
 ·simp at hu; subst hu
  have ha : (⟨w.heap.size, 0, none⟩ : Addr).add (j * 1 + 0) = ⟨w.heap.size, j, none⟩ := by unfold Addr.add; split <;> simp_all
  show w1.cell? ((⟨w.heap.size, 0, none⟩ : Addr).add (j * 1 + 0)) = _; rw [ha, hp, ← hc]; simp only [World.cell?, h]
 ·simp at hu
theorem num_PutBlobS.wp {w0 W : World} {ops : Array Oper} {rest : List Oper} {o1 o2 : Oper} {a : Act} {Q : Exit → Act → World → Prop} {x b : Operand} {t : Tmp} (k : Nat) (P0_ : Nat → Prop) (u9000_ : Value) (l0 : List Int) (s : ByteArray) (r : List Int)
  (hg1 : o1.guard = none) (hop1 : o1.op = .convert 9 25 x) (hd1 : o1.dst = some t) (hg2 : o2.guard = none) (hop2 : o2.op = .call { callee := .value (.func 60), args := #[b, .tmp t], argTypes := #[25, 25] })
  (hx : a.eval x = .string s) (hb : ∀ v, (a.put (some t) v).eval b = u9000_ ∧ (a.put (some t) v).eval (.tmp t) = v) (hP : P0_ = fun k_ => some k_ = u9000_.ownBlock) (hB : Below w0.heap.size w0 W) (ho0 : Kd.R (Kd.int .u8) 5 W w0.heap.size P0_ u9000_ l0) (h : num_PutBlobS.f k l0 s = some r)
  (hK : ∀ (v1 : Value) (e : Ending) (w' : World), (∃ v0_ : Value, e = .returned v0_ ∧ Kd.R (Kd.int .u8) 5 w' w0.heap.size (fun k_ => (P0_ k_ ∨ W.heap.size ≤ k_)) v0_ r ∧ Below w0.heap.size w0 w' ∧ Kept W w' (fun k_ => P0_ k_)) → ∃ v : Value, e = .returned v ∧ wpList Tryz.prog ops Q rest ((a.put o1.dst v1).put o2.dst v) w') :
  wpList Tryz.prog ops Q (o1 :: o2 :: rest) a W := by
 have hs : s.size ≤ 9223372036854775807 := by
  by_cases hc : s.size ≤ 9223372036854775807
  ·exact hc
  ·exfalso
   unfold num_PutBlobS.f num_PutBlob.f at h; obtain ⟨t1, _, h⟩ := Option.bind_eq_some_iff.mp h
   by_cases c : t1.length + (num_PutBlobS.bs s).length < 140737488355328
   ·rw [num_PutBlobS.bs_length] at c; omega
   ·rw [if_neg c] at h; cases h
 have hrun := Go.Lib.run_convert_string_bytes (P := Tryz.prog) W 9 25 5 s (u := .string) (by kernel_rfl) (by kernel_rfl) (by kernel_rfl); have hbel := num_PutBlobS.below W 5 s
 refine wpList_plain hg1 fun K' hK' => ?_
 unfold Oper.wp; simp [execOp, hop1, hx, hrun, Result.andThen]; refine hK' _ _ ?_
 have hlt : ∀ k_, P0_ k_ → k_ < W.heap.size := fun k_ hk => by
  rw [hP] at hk; exact ((Kd.R_bound ho0).1 k_ hk.symm).2.2.1
 have hcap := grownCap_ge W s.size 0 5; obtain ⟨hb1, hb2⟩ := hb (.slice (some ⟨W.heap.size, 0, none⟩) s.size (grownCap W s.size 0 5))
 have hcall := num_PutBlob.calls k P0_ u9000_ l0 (some ⟨W.heap.size, 0, none⟩) (grownCap W s.size 0 5) (num_PutBlobS.bs s) r w0 (Go.Lib.bytesWorld W 5 s) (below_weaken hB hB.size hbel) (Kd.R_below ho0 hbel)
  (fun W_ hk => num_PutBlobS.reads W W_ 5 s hs (hk.2 _ (by rw [Go.Lib.bytesWorld_size]; omega) (fun hp => by have := hlt _ hp; omega))) (by rw [num_PutBlobS.bs_length]; exact hcap) h
 rw [num_PutBlobS.bs_length] at hcall; refine goesL_ o2.dst rfl hg2 Tryz.func60 (by kernel_rfl) rfl #[u9000_, .slice (some ⟨W.heap.size, 0, none⟩) s.size (grownCap W s.size 0 5)] hop2 (by simp only [hd1, List.map_toArray, List.map_cons, List.map_nil, hb1, hb2]) (hcall.mono ?_); rintro e w' ⟨v0, he, hR, hBw, hkp⟩; exact hK _ e w' ⟨v0, he, Kd.R_mono hR (fun k_ hk => hk.imp_right fun hk => Nat.le_trans (by rw [Go.Lib.bytesWorld_size]; omega) hk), hBw, (Kept.of_below hbel _).then_ hkp (fun _ hk => .inl hk)⟩

/-! ### cmp_isNaN_string: function 104 -/
def cmp_isNaN_string.f (a0 : ByteArray) : Option (Bool) := some (a0.toList != a0.toList)
set_option maxHeartbeats 8000000 in
set_option maxRecDepth 100000 in
theorem cmp_isNaN_string.calls (a0 : ByteArray) (r : Bool) (w : World) (h : cmp_isNaN_string.f a0 = some r) :
  Calls Tryz.prog 104 #[.string a0] w fun e w' => e = .returned (.bool r) ∧ Drawn0 w w' := by
 have H : (some (a0.toList != a0.toList)) = some r := h; clear h; obtain rfl := Option.some.inj H; go_enter Tryz.func104, Tryz.ntmps104; go_wp2
 go_ret
 exact ⟨EB, DR⟩

/-! ### cmp_Less_string: function 89 -/
def cmp_Less_string.f (a0 : ByteArray) (a1 : ByteArray) : Option (Bool) := (cmp_isNaN_string.f a0).bind fun t501 => (if t501 = true then ((cmp_isNaN_string.f a1).bind fun t502 => (if t502 = true then (some (Op.bytesLess a0.toList a1.toList)) else (some true))) else (some (Op.bytesLess a0.toList a1.toList)))
set_option maxHeartbeats 8000000 in
set_option maxRecDepth 100000 in
theorem cmp_Less_string.calls (a0 : ByteArray) (a1 : ByteArray) (r : Bool) (w : World) (h : cmp_Less_string.f a0 a1 = some r) :
  Calls Tryz.prog 89 #[.string a0, .string a1] w fun e w' => e = .returned (.bool r) ∧ Drawn0 w w' := by
 have H : ((cmp_isNaN_string.f a0).bind fun t501 => (if t501 = true then ((cmp_isNaN_string.f a1).bind fun t502 => (if t502 = true then (some (Op.bytesLess a0.toList a1.toList)) else (some true))) else (some (Op.bytesLess a0.toList a1.toList)))) = some r := h; clear h; replace H := Option.bind_eq_some_iff.mp H; obtain ⟨t501, A30, H⟩ := H; (try dsimp only at H); have A3 := Aside0.mk A30; clear A30
 by_cases c4 : t501 = true
 ·subst c4
  have H1 : ((cmp_isNaN_string.f a1).bind fun t502 => (if t502 = true then (some (Op.bytesLess a0.toList a1.toList)) else (some true))) = some r := by rw [if_pos rfl] at H; exact H
  clear H; have H := H1; clear H1; replace H := Option.bind_eq_some_iff.mp H; obtain ⟨t502, A50, H⟩ := H; (try dsimp only at H); have A5 := Aside0.mk A50; clear A50
  by_cases c6 : t502 = true
  ·subst c6
   have H1 : (some (Op.bytesLess a0.toList a1.toList)) = some r := by rw [if_pos rfl] at H; exact H
   clear H; have H := H1; clear H1; obtain rfl := Option.some.inj H; go_enter Tryz.func89, Tryz.ntmps89
   go_wp2_with (first | (go_at_call 104; (with_reducible refine (cmp_isNaN_string.calls a0 true _ A3.out).mono ?_); rintro e w' ⟨rfl, ⟨nd, rfl⟩⟩) | (go_at_call 104; (with_reducible refine (cmp_isNaN_string.calls a1 true _ A5.out).mono ?_); rintro e w' ⟨rfl, ⟨nd, rfl⟩⟩))
   go_ret
   exact ⟨EB, DR⟩
  ·replace c6 := Bool.eq_false_iff.mpr c6; subst c6
   have H1 : (some true) = some r := by rw [if_neg (show ¬ (false = true) by decide)] at H; exact H
   clear H; have H := H1; clear H1; obtain rfl := Option.some.inj H; go_enter Tryz.func89, Tryz.ntmps89
   go_wp2_with (first | (go_at_call 104; (with_reducible refine (cmp_isNaN_string.calls a0 true _ A3.out).mono ?_); rintro e w' ⟨rfl, ⟨nd, rfl⟩⟩) | (go_at_call 104; (with_reducible refine (cmp_isNaN_string.calls a1 false _ A5.out).mono ?_); rintro e w' ⟨rfl, ⟨nd, rfl⟩⟩))
   go_ret
   exact ⟨EB, DR⟩
 ·replace c4 := Bool.eq_false_iff.mpr c4; subst c4
  have H1 : (some (Op.bytesLess a0.toList a1.toList)) = some r := by rw [if_neg (show ¬ (false = true) by decide)] at H; exact H
  clear H; have H := H1; clear H1; obtain rfl := Option.some.inj H; go_enter Tryz.func89, Tryz.ntmps89
  go_wp2_with (first | (go_at_call 104; (with_reducible refine (cmp_isNaN_string.calls a0 false _ A3.out).mono ?_); rintro e w' ⟨rfl, ⟨nd, rfl⟩⟩))
  go_ret
  exact ⟨EB, DR⟩

/-! ### slices_isNaN_string: function 90 -/
def slices_isNaN_string.f (a0 : ByteArray) : Option (Bool) := some (a0.toList != a0.toList)
set_option maxHeartbeats 8000000 in
set_option maxRecDepth 100000 in
theorem slices_isNaN_string.calls (a0 : ByteArray) (r : Bool) (w : World) (h : slices_isNaN_string.f a0 = some r) :
  Calls Tryz.prog 90 #[.string a0] w fun e w' => e = .returned (.bool r) ∧ Drawn0 w w' := by
 have H : (some (a0.toList != a0.toList)) = some r := h; clear h; obtain rfl := Option.some.inj H; go_enter Tryz.func90, Tryz.ntmps90; go_wp2
 go_ret
 exact ⟨EB, DR⟩

/-! ### slices_BinarySearch_string_string: function 61 -/
def slices_BinarySearch_string_string.l0 : Nat → List ByteArray → ByteArray → Int → Int → Int → Option (Int × Bool)
 | 0, _, _, _, _, _ => none
 | k + 1, x0, x1, x6, x7, x8 => if x7 < x8 then (if 0 ≤ (wrap64 ((IntKind.u64.wrap (wrap64 (x7 + x8))) / 2)) then (if (wrap64 ((IntKind.u64.wrap (wrap64 (x7 + x8))) / 2)) < (x0.length : Int) then ((cmp_Less_string.f (rdOf ByteArray.empty x0 (wrap64 ((IntKind.u64.wrap (wrap64 (x7 + x8))) / 2))) x1).bind fun t504 => (if t504 = true then (slices_BinarySearch_string_string.l0 k x0 x1 x6 (wrap64 ((wrap64 ((IntKind.u64.wrap (wrap64 (x7 + x8))) / 2)) + 1)) x8) else (slices_BinarySearch_string_string.l0 k x0 x1 x6 x7 (wrap64 ((IntKind.u64.wrap (wrap64 (x7 + x8))) / 2))))) else (none)) else (none)) else (if x7 < x6 then (if 0 ≤ x7 then (if x7 < (x0.length : Int) then (if (rdOf ByteArray.empty x0 x7).toList = x1.toList then (some (x7, true)) else ((slices_isNaN_string.f (rdOf ByteArray.empty x0 x7)).bind fun t507 => (if t507 = true then ((slices_isNaN_string.f x1).bind fun t508 => (some (x7, t508))) else (some (x7, false))))) else (none)) else (none)) else (some (x7, false)))
def slices_BinarySearch_string_string.f (k : Nat) (l0 : List ByteArray) (a1 : ByteArray) : Option (Int × Bool) := slices_BinarySearch_string_string.l0 k l0 a1 (l0.length : Int) 0 (l0.length : Int)
set_option maxHeartbeats 8000000 in
set_option maxRecDepth 100000 in
theorem slices_BinarySearch_string_string.calls (k : Nat) (A0 : Option Addr) (c0 : Nat) (l0 : List ByteArray) (a1 : ByteArray) (r1 : Int) (r2 : Bool) (w : World) (hr0 : Kd.C Kd.string w A0 l0.length l0) (hc0 : l0.length ≤ c0) (h : slices_BinarySearch_string_string.f k l0 a1 = some (r1, r2)) :
  Calls Tryz.prog 61 #[.slice A0 l0.length c0, .string a1] w fun e w' => e = .returned (.tuple #[.int .i64 r1, .bool r2]) ∧ Drawn0 w w' := by
 have HR0 := Aside0.mk hr0; have HC0 := Aside0.mk hc0; clear hr0 hc0; have H : (slices_BinarySearch_string_string.l0 k l0 a1 (l0.length : Int) 0 (l0.length : Int)) = some (r1, r2) := h; clear h; have H' := Aside0.mk H; clear H; go_enter Tryz.func61, Tryz.ntmps61; go_wp2
 go_loopg [7, 8] k (fun kq v7 v8 w' => ∃ (x7_1 : Int) (x8_1 : Int), v7 = .int .i64 x7_1 ∧ v8 = .int .i64 x8_1 ∧ Aside0 (slices_BinarySearch_string_string.l0 kq l0 a1 (l0.length : Int) x7_1 x8_1 = some (r1, r2)) ∧ Aside0 (kq ≤ k) ∧ Drawn0 w w')
 case atStart => exact ⟨(0), ((l0.length : Int)), EB, EB, H', ⟨Nat.le_refl _⟩, DR⟩
 case round =>
  clear H'; (try clear p2); obtain ⟨x7_1, x8_1, rfl, rfl, HA, HK1, ⟨m1, rfl⟩⟩ := hrel
  cases gk with
  | zero => exact absurd HA.out (by simp [slices_BinarySearch_string_string.l0])
  | succ k1 =>
   have H := HA.out; clear HA; simp only [slices_BinarySearch_string_string.l0] at H
   by_cases c3 : x7_1 < x8_1
   ·rw [if_pos c3] at H; have c3b0 := decide_eq_true c3; clear c3
    obtain ⟨ji4, hji4⟩ : ∃ j_ : Int, (wrap64 ((IntKind.u64.wrap (wrap64 (x7_1 + x8_1))) / 2)) = j_ := ⟨_, rfl⟩
    replace H : (if 0 ≤ (ji4) then (if (ji4) < (l0.length : Int) then ((cmp_Less_string.f (rdOf ByteArray.empty l0 (ji4)) a1).bind fun t504 => (if t504 = true then (slices_BinarySearch_string_string.l0 k1 l0 a1 (l0.length : Int) (wrap64 ((ji4) + 1)) x8_1) else (slices_BinarySearch_string_string.l0 k1 l0 a1 (l0.length : Int) x7_1 ji4))) else (none)) else (none)) = some (r1, r2) := by first | (rw [hji4] at H; exact H) | (simp only [hji4] at H ⊢; exact H)
    have hji4w : (IntKind.i64.wrap ((IntKind.u64.wrap (wrap64 (x7_1 + x8_1))) / 2)) = ji4 := (i64_w _).trans hji4
    by_cases c5 : 0 ≤ (ji4)
    ·rw [if_pos c5] at H; have c5b0 := decide_eq_true c5; clear c5
     by_cases c6 : (ji4) < (l0.length : Int)
     ·rw [if_pos c6] at H; have c6b0 := decide_eq_true c6; clear c6; replace H := Option.bind_eq_some_iff.mp H; obtain ⟨t504, A70, H⟩ := H; (try dsimp only at H); have A7 := Aside0.mk A70; clear A70
      by_cases c8 : t504 = true
      ·subst c8
       have H1 : (slices_BinarySearch_string_string.l0 k1 l0 a1 (l0.length : Int) (wrap64 ((ji4) + 1)) x8_1) = some (r1, r2) := by rw [if_pos rfl] at H; exact H
       clear H; have H := H1; clear H1; have H' := Aside0.mk H; clear H; have p503 : 0 ≤ ((ji4) : Int) := OD; have q503 : (ji4) < (l0.length : Int) := OD; obtain ⟨ad503, e503, hx503_0⟩ := Kd.at_string HR0.out (ji4) p503 q503
       cases e503
       replace p503 := eq_true p503; replace q503 := eq_true q503
       go_wp2_with (first | ((with_reducible refine gate_callee (f := 89) rfl ?_); refine goesL_ (some 27) rfl rfl Tryz.func89 (by kernel_rfl) rfl #[.string (rdOf ByteArray.empty l0 (ji4)), .string a1] rfl (by (try simp only [List.map_toArray, List.map_cons, List.map_nil]); first | done | (simp only [hji4]; rfl) | rfl | (simp only [List.length_drop, List.length_take]; rfl)) ?_; (with_reducible refine (cmp_Less_string.calls (rdOf ByteArray.empty l0 (ji4)) a1 true _ A7.out).mono ?_); rintro e w' ⟨rfl, ⟨nd, rfl⟩⟩; refine ⟨_, rfl, ?_⟩))
       go_roundg k1
       case measure => have := HK1.out; omega
       case rel => exact ⟨(wrap64 ((ji4) + 1)), (x8_1), (by first | rfl | (simp; done) | (simp only [← hji4] <;> (first | rfl | simp)) | (simp [*]; done)), EB, H', ⟨by have := HK1.out; omega⟩, DR⟩
      ·replace c8 := Bool.eq_false_iff.mpr c8; subst c8
       have H1 : (slices_BinarySearch_string_string.l0 k1 l0 a1 (l0.length : Int) x7_1 ji4) = some (r1, r2) := by rw [if_neg (show ¬ (false = true) by decide)] at H; exact H
       clear H; have H := H1; clear H1; have H' := Aside0.mk H; clear H; have p503 : 0 ≤ ((ji4) : Int) := OD; have q503 : (ji4) < (l0.length : Int) := OD; obtain ⟨ad503, e503, hx503_0⟩ := Kd.at_string HR0.out (ji4) p503 q503
       cases e503
       replace p503 := eq_true p503; replace q503 := eq_true q503
       go_wp2_with (first | ((with_reducible refine gate_callee (f := 89) rfl ?_); refine goesL_ (some 27) rfl rfl Tryz.func89 (by kernel_rfl) rfl #[.string (rdOf ByteArray.empty l0 (ji4)), .string a1] rfl (by (try simp only [List.map_toArray, List.map_cons, List.map_nil]); first | done | (simp only [hji4]; rfl) | rfl | (simp only [List.length_drop, List.length_take]; rfl)) ?_; (with_reducible refine (cmp_Less_string.calls (rdOf ByteArray.empty l0 (ji4)) a1 false _ A7.out).mono ?_); rintro e w' ⟨rfl, ⟨nd, rfl⟩⟩; refine ⟨_, rfl, ?_⟩))
       go_roundg k1
       case measure => have := HK1.out; omega
       case rel => exact ⟨(x7_1), (ji4), EB, (by first | rfl | (simp; done) | (simp only [← hji4] <;> (first | rfl | simp)) | (simp [*]; done)), H', ⟨by have := HK1.out; omega⟩, DR⟩
     ·rw [if_neg c6] at H; exact absurd H (by simp)
    ·rw [if_neg c5] at H; exact absurd H (by simp)
   ·rw [if_neg c3] at H; have c3b0 := decide_eq_false c3; clear c3
    by_cases c9 : x7_1 < (l0.length : Int)
    ·rw [if_pos c9] at H; have c9b0 := decide_eq_true c9; clear c9
     by_cases c10 : 0 ≤ x7_1
     ·rw [if_pos c10] at H; have c10b0 := decide_eq_true c10; clear c10
      by_cases c11 : x7_1 < (l0.length : Int)
      ·rw [if_pos c11] at H; have c11b0 := decide_eq_true c11; clear c11
       by_cases c12 : (rdOf ByteArray.empty l0 x7_1).toList = a1.toList
       ·rw [if_pos c12] at H; have c12b0 : ((rdOf ByteArray.empty l0 x7_1).toList == a1.toList) = true := beq_iff_eq.mpr c12; have c12b1 : ((rdOf ByteArray.empty l0 x7_1).toList != a1.toList) = false := bne_eq_false_iff_eq.mpr c12; clear c12; simp only [Option.some.injEq, Prod.mk.injEq] at H; obtain ⟨rfl, rfl⟩ := H; have p505 : 0 ≤ (x7_1 : Int) := OD; have q505 : x7_1 < (l0.length : Int) := OD; obtain ⟨ad505, e505, hx505_0⟩ := Kd.at_string HR0.out x7_1 p505 q505
        cases e505
        replace p505 := eq_true p505; replace q505 := eq_true q505; go_wp2
        go_ret2
        exact ⟨EB, DR⟩
       ·rw [if_neg c12] at H; have c12b0 : ((rdOf ByteArray.empty l0 x7_1).toList == a1.toList) = false := beq_eq_false_iff_ne.mpr c12; have c12b1 : ((rdOf ByteArray.empty l0 x7_1).toList != a1.toList) = true := bne_iff_ne.mpr c12; replace H := Option.bind_eq_some_iff.mp H; obtain ⟨t507, A130, H⟩ := H; (try dsimp only at H); have A13 := Aside0.mk A130; clear A130
        by_cases c14 : t507 = true
        ·subst c14
         have H1 : ((slices_isNaN_string.f a1).bind fun t508 => (some (x7_1, t508))) = some (r1, r2) := by rw [if_pos rfl] at H; exact H
         clear H; have H := H1; clear H1; replace H := Option.bind_eq_some_iff.mp H; obtain ⟨t508, A150, H⟩ := H; (try dsimp only at H); have A15 := Aside0.mk A150; clear A150; simp only [Option.some.injEq, Prod.mk.injEq] at H; obtain ⟨rfl, rfl⟩ := H; have p505 : 0 ≤ (x7_1 : Int) := OD; have q505 : x7_1 < (l0.length : Int) := OD; obtain ⟨ad505, e505, hx505_0⟩ := Kd.at_string HR0.out x7_1 p505 q505
         cases e505
         replace p505 := eq_true p505; replace q505 := eq_true q505; have p506 : 0 ≤ (x7_1 : Int) := OD; have q506 : x7_1 < (l0.length : Int) := OD; obtain ⟨ad506, e506, hx506_0⟩ := Kd.at_string HR0.out x7_1 p506 q506
         obtain rfl : ad505 = ad506 := (by injection e506)
         replace p506 := eq_true p506; replace q506 := eq_true q506
         go_wp2_with (first | (go_at_call 90; (with_reducible refine (slices_isNaN_string.calls (rdOf ByteArray.empty l0 x7_1) true _ A13.out).mono ?_); rintro e w' ⟨rfl, ⟨nd, rfl⟩⟩) | (go_at_call 90; (with_reducible refine (slices_isNaN_string.calls a1 t508 _ A15.out).mono ?_); rintro e w' ⟨rfl, ⟨nd, rfl⟩⟩))
         go_ret2
         exact ⟨EB, DR⟩
        ·replace c14 := Bool.eq_false_iff.mpr c14; subst c14
         have H1 : (some (x7_1, false)) = some (r1, r2) := by rw [if_neg (show ¬ (false = true) by decide)] at H; exact H
         clear H; have H := H1; clear H1; simp only [Option.some.injEq, Prod.mk.injEq] at H; obtain ⟨rfl, rfl⟩ := H; have p505 : 0 ≤ (x7_1 : Int) := OD; have q505 : x7_1 < (l0.length : Int) := OD; obtain ⟨ad505, e505, hx505_0⟩ := Kd.at_string HR0.out x7_1 p505 q505
         cases e505
         replace p505 := eq_true p505; replace q505 := eq_true q505; have p506 : 0 ≤ (x7_1 : Int) := OD; have q506 : x7_1 < (l0.length : Int) := OD; obtain ⟨ad506, e506, hx506_0⟩ := Kd.at_string HR0.out x7_1 p506 q506
         obtain rfl : ad505 = ad506 := (by injection e506)
         replace p506 := eq_true p506; replace q506 := eq_true q506
         go_wp2_with (first | (go_at_call 90; (with_reducible refine (slices_isNaN_string.calls (rdOf ByteArray.empty l0 x7_1) false _ A13.out).mono ?_); rintro e w' ⟨rfl, ⟨nd, rfl⟩⟩))
         go_ret2
         exact ⟨EB, DR⟩
      ·rw [if_neg c11] at H; exact absurd H (by simp)
     ·rw [if_neg c10] at H; exact absurd H (by simp)
    ·rw [if_neg c9] at H; have c9b0 := decide_eq_false c9; clear c9; simp only [Option.some.injEq, Prod.mk.injEq] at H; obtain ⟨rfl, rfl⟩ := H; go_wp2
     go_ret2
     exact ⟨EB, DR⟩

/-! ### texts_Put: function 30 -/
mutual
def texts_Put.j0 : Nat → List ByteArray → Bool → Option (List Int × Int)
 | 0, _, _ => none
 | k + 1, x0, x22 => if x22 = true then (some (([] : List Int), 12)) else ((texts_List.f x0).bind fun t510 => ((num_PutVar.f k ([] : List Int) (IntKind.u64.wrap ((t510.length : Int)))).bind fun t513 => (texts_Put.l0 k x0 t510 t513 t510 (t510.length : Int) 0)))
def texts_Put.l0 : Nat → List ByteArray → List ByteArray → List Int → List ByteArray → Int → Int → Option (List Int × Int)
 | 0, _, _, _, _, _, _ => none
 | k + 1, x0, x4, x5, x29, x30, x31 => if x31 < x30 then (if 0 ≤ x31 then (if x31 < (x29.length : Int) then ((num_PutBlobS.f k x5 (rdOf ByteArray.empty x29 x31)).bind fun t517 => (texts_Put.l0 k x0 x4 t517 x29 x30 (wrap64 (x31 + 1)))) else (none)) else (none)) else (texts_Put.l1 k x4 x5 ([] : List Int) x0 (x0.length : Int) 0)
def texts_Put.l1 : Nat → List ByteArray → List Int → List Int → List ByteArray → Int → Int → Option (List Int × Int)
 | 0, _, _, _, _, _, _ => none
 | k + 1, x4, x5, x8, x40, x41, x42 => if x42 < x41 then (if 0 ≤ x42 then (if x42 < (x40.length : Int) then ((slices_BinarySearch_string_string.f k x4 (rdOf ByteArray.empty x40 x42)).bind fun bt521 => (if x8.length < 17592186044416 then (texts_Put.l1 k x4 x5 (x8 ++ [IntKind.u64.wrap (bt521.1)]) x40 x41 (wrap64 (x42 + 1))) else (none))) else (none)) else (none)) else ((texts_width.f (x4.length : Int)).bind fun t526 => ((bits_Pack.f k x8 t526).bind fun bt527 => (if x5.length < 140737488355328 then ((some (x5 ++ [(t526) % 256] : List Int)).bind fun y531 => (if y531.length + bt527.1.length < 140737488355328 then (some ((y531 ++ bt527.1), bt527.2)) else (none))) else (none))))
end
def texts_Put.f (k : Nat) (l0 : List ByteArray) : Option (List Int × Int) := if (l0.length : Int) > 65536 then (texts_Put.j0 k l0 true) else ((slices_ContainsFunc_string_string.f l0).bind fun t509 => (texts_Put.j0 k l0 t509))
set_option maxHeartbeats 8000000 in
set_option maxRecDepth 100000 in
theorem texts_Put.calls (k : Nat) (A0 : Option Addr) (c0 : Nat) (l0 : List ByteArray) (r1 : List Int) (r2 : Int) (w : World) (hr0 : Kd.C Kd.string w A0 l0.length l0) (hc0 : l0.length ≤ c0) (h : texts_Put.f k l0 = some (r1, r2)) :
  Calls Tryz.prog 30 #[.slice A0 l0.length c0] w fun e w' => ∃ v0_ : Value, e = .returned (.tuple #[v0_, .int .i64 r2]) ∧ Kd.R (Kd.int .u8) 5 w' w.heap.size (fun _ => True) v0_ r1 ∧ Below w.heap.size w w' := by
 have HR0 := Aside0.mk hr0; have HC0 := Aside0.mk hc0; clear hr0 hc0; have HB := Aside0.mk (Below.refl w.heap.size w); have H : (if (l0.length : Int) > 65536 then (texts_Put.j0 k l0 true) else ((slices_ContainsFunc_string_string.f l0).bind fun t509 => (texts_Put.j0 k l0 t509))) = some (r1, r2) := h; clear h; have HC2 := Aside0.mk H; clear H; go_enter Tryz.func30, Tryz.ntmps30
 go_upto_region 1 with (fail)
 go_cut [22] (fun v22 wc => ∃ (kq : Nat) (x22_1 : Bool), v22 = .bool x22_1 ∧ Aside0 (texts_Put.j0 kq l0 x22_1 = some (r1, r2)) ∧ Aside0 (kq ≤ k) ∧ Aside0 (Below w.heap.size w wc))
 case first =>
  have H := HC2.out; clear HC2
  by_cases c3 : (l0.length : Int) > 65536
  ·rw [if_pos c3] at H; have c3b0 : decide (65536 < (l0.length : Int)) = true := decide_eq_true c3; have c3b1 : decide (65536 < l0.length) = true := decide_eq_true (by omega); clear c3
   (first | rw [c3b0] | (simp only [i64_w, i32_w]; rw [c3b0]) | skip)
   have H' := Aside0.mk H; clear H; go_wp2; go_meet
   case rel => exact ⟨_, (true), EB, H', ⟨by first | omega | exact Nat.le_refl _⟩, ⟨BU HB.out⟩⟩
  ·rw [if_neg c3] at H; have c3b0 : decide (65536 < (l0.length : Int)) = false := decide_eq_false c3; have c3b1 : decide (65536 < l0.length) = false := decide_eq_false (by omega); clear c3
   (first | rw [c3b0] | (simp only [i64_w, i32_w]; rw [c3b0]) | skip)
   replace H := Option.bind_eq_some_iff.mp H; obtain ⟨t509, A40, H⟩ := H; replace H : (texts_Put.j0 k l0 t509) = some (r1, r2) := H; have A4 := Aside0.mk A40; clear A40; have H' := Aside0.mk H; clear H
   go_wp2_with (first | (go_at_call 56; (with_reducible refine (slices_ContainsFunc_string_string.calls _ _ l0  t509 _ ?side1 ?side2 A4.out).mono ?_); (case side1 => exact CU ((Kd.C_below HR0.out HB.out))); (case side2 => exact HC0.out); rintro e w' ⟨rfl, ⟨nd, rfl⟩⟩))
   go_meet
   case rel => exact ⟨_, (t509), EB, H', ⟨by first | omega | exact Nat.le_refl _⟩, ⟨BU HB.out⟩⟩
 case rest =>
  clear HC2; (try clear p2); (try clear c3); (try clear c3b0); (try clear c3b1); obtain ⟨kq, x22_1, rfl, HA, HJ1, HB⟩ := hcut
  cases kq with
  | zero => exact absurd HA.out (by simp [texts_Put.j0])
  | succ kj1 =>
   have H := HA.out; clear HA; simp only [texts_Put.j0] at H
   by_cases c5 : x22_1 = true
   ·subst c5
    have H1 : (some (([] : List Int), 12)) = some (r1, r2) := by rw [if_pos rfl] at H; exact H
    clear H; have H := H1; clear H1; simp only [Option.some.injEq, Prod.mk.injEq] at H; obtain ⟨rfl, rfl⟩ := H; go_wp2
    go_ret2
    exact ⟨_, ER, by first | exact Kd.R_nil _ _ _ _ _ | exact Kd.N_nil _ _ _ _ _ | exact Kd.V_nil _ _ _ _ _ | exact Kd.Q_nil _ _ _ _ _ | exact Kd.S_nil _ _ _ _ _, BU HB.out⟩
   ·replace c5 := Bool.eq_false_iff.mpr c5; subst c5
    have H1 : ((texts_List.f l0).bind fun t510 => ((num_PutVar.f kj1 ([] : List Int) (IntKind.u64.wrap ((t510.length : Int)))).bind fun t513 => (texts_Put.l0 kj1 l0 t510 t513 t510 (t510.length : Int) 0))) = some (r1, r2) := by rw [if_neg (show ¬ (false = true) by decide)] at H; exact H
    clear H; have H := H1; clear H1; replace H := Option.bind_eq_some_iff.mp H; obtain ⟨t510, A60, H⟩ := H; (try dsimp only at H); have A6 := Aside0.mk A60; clear A60; replace H := Option.bind_eq_some_iff.mp H; obtain ⟨t513, A70, H⟩ := H; (try dsimp only at H); have A7 := Aside0.mk A70; clear A70; have H' := Aside0.mk H; clear H
    go_wp2_with (first | (go_at_call 58; (with_reducible refine (texts_List.calls _ _ l0 t510 _ ?side1 ?side2 A6.out).mono ?_); (case side1 => exact CU ((Kd.C_below HR0.out HB.out))); (case side2 => exact HC0.out); rintro e w8 ⟨v511, rfl, ho0, hb⟩; have HO512 := Aside0.mk (Kd.R_lower ho0 (below_size (BU HB.out))); replace HB := Aside0.mk (below_step (BU HB.out) hb); clear hb ho0; obtain ⟨Ao9, co9, eo9⟩ := Kd.R_slice HO512.out; subst eo9) | (go_at_call 59; (refine (num_PutVar.calls kj1 (fun k_ => some k_ = (.slice none 0 0 : Value).ownBlock) (.slice none 0 0) ([] : List Int) (IntKind.u64.wrap ((t510.length : Int))) t513 w _ ?side1 ?side2 A7.out).mono ?_); (case side1 => exact BU HB.out); (case side2 => exact Kd.R_nil _ _ _ _ _); rintro e w10 ⟨v514, rfl, ho0, hb, hkp⟩; replace HO512 := Aside0.mk (Kd.R_mono (ok' := fun k_ => True) (Kd.R_keptB (HO512.out) hkp (fun k_ hk_ hs_ => (fun e_ => by simp [Value.ownBlock] at e_) hs_)) (fun k_ hk_ => trivial)); have HO515 := Aside0.mk (Kd.R_mono (ok' := fun k_ => True) ho0 (fun k_ hk_ => trivial)); replace HB := Aside0.mk hb; (try clear hb); (try clear hkp); (try clear ho0)))
    go_loopg [5, 31] kj1 (fun kq v5 v31 w' => ∃ (x5_2 : List Int) (x31_2 : Int), v31 = .int .i64 x31_2 ∧ Aside0 (texts_Put.l0 kq l0 t510 x5_2 t510 (t510.length : Int) x31_2 = some (r1, r2)) ∧ Aside0 (kq ≤ kj1) ∧ Aside0 (Kd.R Kd.string 9 w' w.heap.size (fun _ => True) (.slice Ao9 t510.length co9) t510) ∧ Aside0 (Kd.R (Kd.int .u8) 5 w' w.heap.size (fun _ => True) v5 x5_2) ∧ Aside0 (Kd.R Kd.string 9 w' w.heap.size (fun _ => True) (.slice Ao9 t510.length co9) t510) ∧ Aside0 (Below w.heap.size w w'))
    case atStart => exact ⟨(t513), (0), EB, H', ⟨Nat.le_refl _⟩, ⟨RU HO512.out⟩, ⟨RU HO515.out⟩, ⟨RU HO512.out⟩, ⟨BU HB.out⟩⟩
    case round =>
     clear H'; (try clear p2); (try clear c3); (try clear c3b0); (try clear c3b1); (try clear c5); (try clear p2); obtain ⟨x5_2, x31_2, rfl, HA, HK2, HO_4, HO_5, HO_29, HB⟩ := hrel
     cases gk with
     | zero => exact absurd HA.out (by simp [texts_Put.l0])
     | succ k2 =>
      have H := HA.out; clear HA; simp only [texts_Put.l0] at H
      by_cases c11 : x31_2 < (t510.length : Int)
      ·rw [if_pos c11] at H; have c11b0 := decide_eq_true c11; clear c11
       by_cases c12 : 0 ≤ x31_2
       ·rw [if_pos c12] at H; have c12b0 := decide_eq_true c12; clear c12
        by_cases c13 : x31_2 < (t510.length : Int)
        ·rw [if_pos c13] at H; have c13b0 := decide_eq_true c13; clear c13; replace H := Option.bind_eq_some_iff.mp H; obtain ⟨t517, A140, H⟩ := H; (try dsimp only at H); have A14 := Aside0.mk A140; clear A140; have H' := Aside0.mk H; clear H; have p516 : 0 ≤ (x31_2 : Int) := OD; have q516 : x31_2 < (t510.length : Int) := OD; obtain ⟨ad516, e516, hx516_0⟩ := Kd.at_string (Kd.R_reads' HO_29.out).2.2 x31_2 p516 q516
         cases e516
         replace p516 := eq_true p516; replace q516 := eq_true q516; obtain ⟨Ao15, co15, eo15⟩ := Kd.R_slice HO_5.out; subst eo15
         go_wp2_with (first | (refine num_PutBlobS.wp (w0 := w) k2 (fun k_ => some k_ = (.slice Ao15 x5_2.length co15 : Value).ownBlock) (.slice Ao15 x5_2.length co15) x5_2 (rdOf ByteArray.empty t510 x31_2) t517 rfl rfl rfl rfl rfl rfl (fun _ => ⟨rfl, rfl⟩) (by first | rfl | exact Or.inr trivial)  ?side1 ?side2 A14.out ?_; (case side1 => exact BU HB.out); (case side2 => exact Kd.R_tight rfl HO_5.out); intro vcA14; rintro e w16 ⟨v518, rfl, ho0, hb, hkp⟩; refine ⟨_, rfl, ?_⟩; replace HO_4 := Aside0.mk (Kd.R_mono (ok' := fun k_ => True) (Kd.R_keptB ((Kd.R_apart' HO_4.out (Kd.R_typed HO_5.out) (by decide))) hkp (fun k_ hk_ hs_ => (hk_.2) hs_)) (fun k_ hk_ => trivial)); replace HO_29 := Aside0.mk (Kd.R_mono (ok' := fun k_ => True) (Kd.R_keptB ((Kd.R_apart' HO_29.out (Kd.R_typed HO_5.out) (by decide))) hkp (fun k_ hk_ hs_ => (hk_.2) hs_)) (fun k_ hk_ => trivial)); have HO519 := Aside0.mk (Kd.R_mono (ok' := fun k_ => True) ho0 (fun k_ hk_ => trivial)); replace HB := Aside0.mk hb; clear HO_5; (try clear hb); (try clear hkp); (try clear ho0)))
         go_roundg k2
         case measure => have := HJ1.out; have := HK2.out; omega
         case rel => exact ⟨(t517), (wrap64 (x31_2 + 1)), EB, H', ⟨by have := HJ1.out; have := HK2.out; omega⟩, ⟨RU HO_4.out⟩, ⟨RU HO519.out⟩, ⟨RU HO_29.out⟩, ⟨BU HB.out⟩⟩
        ·rw [if_neg c13] at H; exact absurd H (by simp)
       ·rw [if_neg c12] at H; exact absurd H (by simp)
      ·rw [if_neg c11] at H; have c11b0 := decide_eq_false c11; clear c11; have H' := Aside0.mk H; clear H; go_wp2
       go_loopg [8, 42] k2 (fun kq v8 v42 w' => ∃ (x8_3 : List Int) (x42_3 : Int), v42 = .int .i64 x42_3 ∧ Aside0 (texts_Put.l1 kq t510 x5_2 x8_3 l0 (l0.length : Int) x42_3 = some (r1, r2)) ∧ Aside0 (kq ≤ k2) ∧ Aside0 (Kd.R Kd.string 9 w' w.heap.size (fun _ => True) (.slice Ao9 t510.length co9) t510) ∧ Aside0 (Kd.R (Kd.int .u8) 5 w' w.heap.size (fun _ => True) u5 x5_2) ∧ Aside0 (Kd.R (Kd.int .u64) 75 w' w.heap.size (fun _ => True) v8 x8_3) ∧ Aside0 (Below w.heap.size w w'))
       case atStart => exact ⟨(([] : List Int)), (0), EB, H', ⟨Nat.le_refl _⟩, ⟨RU HO_4.out⟩, ⟨RU HO_5.out⟩, ⟨by first | exact Kd.R_nil _ _ _ _ _ | exact Kd.N_nil _ _ _ _ _ | exact Kd.V_nil _ _ _ _ _ | exact Kd.Q_nil _ _ _ _ _ | exact Kd.S_nil _ _ _ _ _⟩, ⟨BU HB.out⟩⟩
       case round =>
        clear H'; (try clear c1); (try clear p2); (try clear c3); (try clear c3b0); (try clear c3b1); (try clear c5); (try clear p5); (try clear q5); (try clear hx5); (try clear p6); (try clear c11); (try clear c11b0); (try clear c12); (try clear c12b0); (try clear c13); (try clear c13b0); (try clear hx516_0); (try clear p2); (try clear p516); (try clear q516); obtain ⟨x8_3, x42_3, rfl, HA, HK3, HO_4, HO_5, HO_8, HB⟩ := hrel
        cases gk with
        | zero => exact absurd HA.out (by simp [texts_Put.l1])
        | succ k3 =>
         have H := HA.out; clear HA; simp only [texts_Put.l1] at H
         by_cases c17 : x42_3 < (l0.length : Int)
         ·rw [if_pos c17] at H; have c17b0 := decide_eq_true c17; clear c17
          by_cases c18 : 0 ≤ x42_3
          ·rw [if_pos c18] at H; have c18b0 := decide_eq_true c18; clear c18
           by_cases c19 : x42_3 < (l0.length : Int)
           ·rw [if_pos c19] at H; have c19b0 := decide_eq_true c19; clear c19; replace H := Option.bind_eq_some_iff.mp H; obtain ⟨⟨t521, t522⟩, A200, H⟩ := H; (try dsimp only at H); have A20 := Aside0.mk A200; clear A200
            by_cases c21 : x8_3.length < 17592186044416
            ·rw [if_pos c21] at H; have LMc21 := Aside0.mk c21; clear c21
             obtain ⟨y523, hy523⟩ : ∃ y_ : List Int, y_ = (x8_3 ++ [IntKind.u64.wrap (t521)]) := ⟨_, rfl⟩
             replace H : (texts_Put.l1 k3 t510 x5_2 y523 l0 (l0.length : Int) (wrap64 (x42_3 + 1))) = some (r1, r2) := HY hy523 H; have Ny523 := Aside0.mk hy523; clear hy523; have H' := Aside0.mk H; clear H; have p520 : 0 ≤ (x42_3 : Int) := OD; have q520 : x42_3 < (l0.length : Int) := OD; obtain ⟨ad520, e520, hx520_0⟩ := Kd.at_string HR0.out x42_3 p520 q520
             cases e520
             replace hx520_0 := (HB.out.cell (World.block_lt_of_cell? w _ hx520_0)).trans hx520_0; replace p520 := eq_true p520; replace q520 := eq_true q520
             go_wp2_with (first | (go_at_call 61; (with_reducible refine (slices_BinarySearch_string_string.calls k3 _ _ t510 (rdOf ByteArray.empty l0 x42_3) t521 t522 _ ?side1 ?side2 A20.out).mono ?_); (case side1 => exact CU ((Kd.R_reads' HO_4.out).2.2)); (case side2 => exact (Kd.R_reads' HO_4.out).2.1); rintro e w' ⟨rfl, ⟨nd, rfl⟩⟩) | ((with_reducible refine gate_builtin (b := .append) (xs := #[.tmp 52, .tmp 55]) rfl ?_); at_builtin; refine Kd.R_append (Kd.int .u64) (w0 := w) w.heap.size rfl (.tmp 52) (.tmp 55) 83 75 (.int .u64 0) 8 rfl Tryz.underlying83 info75 rfl (by decide) (by omega) u8 x8_3 (IntKind.u64.wrap (t521)) [.int .u64 (IntKind.u64.wrap (t521))] (fun _ => True) (fun _ => False) rfl rfl ?aP (fun _ hk => hk.elim) ?aF ?aO ?aB ?aS ?aL ?_; (case aP => exact rfl); (case aB => exact (BU HB.out)); (case aF => exact (fun _ _ => trivial)); (case aO => exact (RU HO_8.out)); (case aS => exact (below_size (BU HB.out))); (case aL => have := LMc21.out; omega); intro v524 w22 ho hb hg hat; rw [← Ny523.out] at ho; replace HO_4 := Aside0.mk (Kd.R_over' (RU HO_4.out) (Kd.R_typed (RU HO_8.out)) (by decide) hg); replace HO_5 := Aside0.mk (Kd.R_over' (RU HO_5.out) (Kd.R_typed (RU HO_8.out)) (by decide) hg); replace HB := Aside0.mk hb; have HO525 := Aside0.mk ho; clear HO_8; clear ho hb hg hat))
             go_roundg k3
             case measure => have := HJ1.out; have := HK2.out; have := HK3.out; omega
             case rel => exact ⟨(y523), (wrap64 (x42_3 + 1)), EB, H', ⟨by have := HJ1.out; have := HK2.out; have := HK3.out; omega⟩, ⟨RU HO_4.out⟩, ⟨RU HO_5.out⟩, ⟨RU HO525.out⟩, ⟨BU HB.out⟩⟩
            ·rw [if_neg c21] at H; exact absurd H (by simp)
           ·rw [if_neg c19] at H; exact absurd H (by simp)
          ·rw [if_neg c18] at H; exact absurd H (by simp)
         ·rw [if_neg c17] at H; have c17b0 := decide_eq_false c17; clear c17; replace H := Option.bind_eq_some_iff.mp H; obtain ⟨t526, A230, H⟩ := H; (try dsimp only at H); have A23 := Aside0.mk A230; clear A230; replace H := Option.bind_eq_some_iff.mp H; obtain ⟨⟨t527, t528⟩, A240, H⟩ := H; (try dsimp only at H); have A24 := Aside0.mk A240; clear A240
          by_cases c25 : x5_2.length < 140737488355328
          ·rw [if_pos c25] at H; have LMc25 := Aside0.mk c25; clear c25
           obtain ⟨y531, hy531⟩ : ∃ y_ : List Int, y_ = (x5_2 ++ [(t526) % 256]) := ⟨_, rfl⟩
           replace H : (if y531.length + t527.length < 140737488355328 then (some ((y531 ++ t527), t528)) else (none)) = some (r1, r2) := HY hy531 H; have Ny531 := Aside0.mk hy531; clear hy531
           by_cases c26 : y531.length + t527.length < 140737488355328
           ·rw [if_pos c26] at H; have LMc26 := Aside0.mk c26; clear c26
            obtain ⟨y534, hy534⟩ : ∃ y_ : List Int, y_ = (y531 ++ t527) := ⟨_, rfl⟩
            replace H : (some (y534, t528)) = some (r1, r2) := HY hy534 H; have Ny534 := Aside0.mk hy534; clear hy534; simp only [Option.some.injEq, Prod.mk.injEq] at H; obtain ⟨rfl, rfl⟩ := H
            go_wp2_with (first | (go_at_call 38; (with_reducible refine (texts_width.calls (t510.length : Int) t526 _ A23.out).mono ?_); rintro e w27 ⟨rfl, hb⟩; replace HO_4 := Aside0.mk (Kd.R_below (RU HO_4.out) hb); replace HO_5 := Aside0.mk (Kd.R_below (RU HO_5.out) hb); replace HO_8 := Aside0.mk (Kd.R_below (RU HO_8.out) hb); replace HB := Aside0.mk (below_step (BU HB.out) hb); clear hb; obtain ⟨Ao28, co28, eo28⟩ := Kd.R_slice HO_8.out; subst eo28) | (go_at_call 62; (with_reducible refine (bits_Pack.calls k3 _ _ x8_3 t526 t527 t528 _ ?side1 ?side2 A24.out).mono ?_); (case side1 => exact CU ((Kd.R_reads' HO_8.out).2.2)); (case side2 => exact (Kd.R_reads' HO_8.out).2.1); rintro e w29 ⟨v529, rfl, ho0, hb⟩; replace HO_4 := Aside0.mk (Kd.R_below (RU HO_4.out) hb); replace HO_8 := Aside0.mk (Kd.R_below (RU HO_8.out) hb); have HO530 := Aside0.mk (Kd.R_lower (Kd.R_new' ho0 (Kd.R_lt (RU HO_5.out))) (below_size (BU HB.out))); replace HO_5 := Aside0.mk (Kd.R_elder' (RU HO_5.out) (Kd.R_base ho0) hb); replace HB := Aside0.mk (below_step (BU HB.out) hb); clear hb ho0) | ((with_reducible refine gate_builtin (b := .append) (xs := #[.tmp 67, .tmp 70]) rfl ?_); at_builtin; refine Kd.R_append (Kd.int .u8) (w0 := w) w.heap.size rfl (.tmp 67) (.tmp 70) 25 5 (.int .u8 0) 1 rfl Tryz.underlying25 info5 rfl (by decide) (by omega) u5 x5_2 ((t526) % 256) [.int .u8 ((t526) % 256)] (fun k_ => some k_ ≠ (v529 : Value).ownBlock) (fun _ => False) rfl rfl ?aP (fun _ hk => hk.elim) ?aF ?aO ?aB ?aS ?aL ?_; (case aP => exact rfl); (case aB => exact (BU HB.out)); (case aF => exact (fun k_ hk => Kd.fresh' (Kd.R_lt (RU HO530.out)) k_ hk)); (case aO => exact (RU (Kd.R_mono HO_5.out (fun _ hk => hk.2)))); (case aS => exact (below_size (BU HB.out))); (case aL => have := LMc25.out; omega); intro v532 w30 ho hb hg hat; rw [← Ny531.out] at ho; replace HO_4 := Aside0.mk (Kd.R_over' (RU HO_4.out) (Kd.R_typed (RU HO_5.out)) (by decide) hg); replace HO_8 := Aside0.mk (Kd.R_over' (RU HO_8.out) (Kd.R_typed (RU HO_5.out)) (by decide) hg); replace HO530 := Aside0.mk (Kd.R_after (ok := (fun _ => True)) (RU HO530.out) hg hat); replace HB := Aside0.mk hb; have HO533 := Aside0.mk ho; clear HO_5; clear ho hb hg hat; obtain ⟨Ao32, co32, eo32⟩ := Kd.R_slice HO530.out; subst eo32) | ((with_reducible refine gate_builtin (b := .append) (xs := #[.tmp 71, .tmp 72]) rfl ?_); at_builtin; refine Kd.R_append_rows (Kd.int .u8) (w0 := w) w.heap.size rfl (.tmp 71) (.tmp 72) 25 5 (.int .u8 0) 1 rfl Tryz.underlying25 info5 rfl (by decide) (by omega) v532 y531 t527 _ _ _ (fun k_ => some k_ ≠ (.slice Ao32 t527.length co32 : Value).ownBlock) (fun _ => False) rfl rfl ?aO ?aR (fun _ _ h => h) (fun _ h => h.elim) ?aF ?aB ?aS ?aL ?_; (case aR => exact CU ((Kd.R_reads' HO530.out).2.2)); (case aB => exact (BU HB.out)); (case aF => exact (fun k_ hk => Kd.fresh' (Kd.R_lt (RU HO530.out)) k_ hk)); (case aO => exact (RU HO533.out)); (case aS => exact (below_size (BU HB.out))); (case aL => have := LMc26.out; omega); intro v535 w31 ho hb hg hat; rw [← Ny534.out] at ho; replace HO_4 := Aside0.mk (Kd.R_over' (RU HO_4.out) (Kd.R_typed (RU HO533.out)) (by decide) hg); replace HO_8 := Aside0.mk (Kd.R_over' (RU HO_8.out) (Kd.R_typed (RU HO533.out)) (by decide) hg); replace HO530 := Aside0.mk (Kd.R_after (ok := (fun _ => True)) (RU HO530.out) hg hat); replace HB := Aside0.mk hb; have HO536 := Aside0.mk ho; clear HO533; clear ho hb hg hat))
            go_ret2
            exact ⟨_, ER, RU (Kd.R_mono HO536.out (fun _ hk => trivial)), BU HB.out⟩
           ·rw [if_neg c26] at H; exact absurd H (by simp)
          ·rw [if_neg c25] at H; exact absurd H (by simp)

/-! ### chunk_lay: function 17 -/
end Go.Proofs.YtehbkhddbdgbcaaGreatDoor.PChunkBack
