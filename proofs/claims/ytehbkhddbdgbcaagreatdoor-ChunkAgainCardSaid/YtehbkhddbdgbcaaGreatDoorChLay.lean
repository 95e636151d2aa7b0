/- chunk.lay: the chunk of values that may be, in a way. -/
import Derived.Test.YtehbkhddbdgbcaaGreatDoorChOut
namespace Go.Proofs.YtehbkhddbdgbcaaGreatDoor.Ch
open Go.RowKit Go.Proofs.YtehbkhddbdgbcaaGreatDoorW.PrintWords Go.Proofs.YtehbkhddbdgbcaaGreatDoorW.PrintLast Go.Proofs.YtehbkhddbdgbcaaGreatDoorW.PrintMore Go.Proofs.YtehbkhddbdgbcaaGreatDoor.PChunkBack Go.Proofs.YtehbkhddbdgbcaaGreatDoor.Bits
attribute [local go_sem] max2_int min2_int max_two min_two max_three min_three max_four min_four
set_option linter.unusedVariables false
set_option linter.unusedSimpArgs false
abbrev BytesR (w : World) (B : Nat) (v : Value) (xs : List Int) : Prop := (Kd.int .u8).R 5 w B (fun _ => True) v xs
/-- What a function that puts a row comes to. -/
abbrev PutsTo {α : Type} (d : Kd α) (n : Nat) (xs : List α) (P : List Int) : Prop :=
  ∀ (W : World) (A : Option Addr) (c : Nat), d.C W A xs.length xs → xs.length ≤ c → Calls Tryz.prog n #[.slice A xs.length c] W fun e w' => ∃ v e0, e = .returned (.tuple #[v, .int .i64 e0]) ∧ BytesR w' W.heap.size v P ∧ Below W.heap.size W w'
def someNull (l : List S40) : Bool := (marksOf l).any id
def frontOf (l : List S40) : List Int := if someNull l then 1 :: pack (marksOf l) else [0]
theorem cnt_some (l : List S40) : (0 < cnt (marksOf l) (marksOf l).length) ↔ someNull l = true := by
  unfold cnt someNull
  rw [List.take_length, List.length_pos_iff_exists_mem]
  simp
theorem lit_R (w : World) (x : Int) : BytesR (w.alloc (.cells #[.int .u8 x] 5)) w.heap.size (.slice (some ⟨w.heap.size, 0, none⟩) 1 1) [x] :=
  Kd.R_of_own (h1 := fun _ => rfl) ⟨rfl, .inr ⟨w.heap.size, 1, #[.int .u8 x], rfl, Nat.le_refl _, heap_alloc_new _ _, Nat.le_refl _, by unfold maxLen; decide, rfl, rfl⟩⟩ (fun _ _ => trivial)
theorem blk_C {w : World} {c : Nat} {l : List Int} (h : w.heap[c]? = some (.cells (l.map (Value.int .u8)).toArray 5 (0, 0))) (hl : l.length ≤ 9223372036854775807) : (Kd.int .u8).C w (some ⟨c, 0, none⟩) l.length l := by
  refine Kd.C_of_reads (enc := Value.int .u8) (d := (0 : Int)) (h1 := fun _ => rfl) ⟨rfl, hl, fun _ => ⟨_, rfl, fun j hj => ?_⟩⟩
  have e : (Addr.add ⟨c, 0, none⟩ j) = ⟨c, j, none⟩ := by by_cases h0 : j = 0 <;> simp [Addr.add, h0]
  rw [e, blk_cell h j]
  simp [hj]
theorem forms_ok (w : World) : Calls Tryz.prog 24 #[] w fun e w' => e = .returned (.slice (some ⟨w.heap.size, 0, none⟩) 5 5) ∧ w' = w.alloc (.cells #[.func (.func 43) #[] #[], .func (.func 44) #[] #[], .func (.func 45) #[] #[], .func (.func 46) #[] #[], .func (.func 47) #[] #[], .func (.func 48) #[] #[], .func (.func 49) #[] #[], .func (.func 50) #[] #[], .func (.func 51) #[] #[], .func (.func 52) #[] #[]] 60) := by
  go_enter Tryz.func24, Tryz.ntmps24
  go_wp2
  go_ret
  exact ⟨rfl, rfl⟩
theorem front_len (l : List S40) : (frontOf l).length ≤ 2 + l.length := by
  unfold frontOf
  split
  · simp [pack_len, marksOf]; omega
  · simp; omega
set_option maxRecDepth 100000 in
set_option maxHeartbeats 8000000 in
theorem lay0_no (w : World) (A : Option Addr) (c : Nat) (l : List S40) (hr : Kd.C k40 w A l.length l) (hl : l.length ≤ 65536) (P : List Int) (hP : PutsTo (Kd.int .i64) 43 (intsOf l) P) (hPl : P.length ≤ 1099511627776) (hn : someNull l = false) :
    Calls Tryz.prog 17 #[.slice A l.length c, .int .i64 0] w fun e w' => ∃ v, e = .returned v ∧ BytesR w' w.heap.size v (frontOf l ++ [0] ++ P) ∧ Below w.heap.size w w' := by
  have hPa := Aside0.mk (parts_ok w A c l hr hl)
  have hc0 : ¬ (0 < cnt (marksOf l) (marksOf l).length) := by rw [cnt_some, hn]; simp
  have hc1 : cnt (marksOf l) (marksOf l).length = 0 := by omega
  have hfr : frontOf l = [0] := by unfold frontOf; rw [hn]; rfl
  have HP := Aside0.mk hP
  have hfl := front_len l
  rw [hfr] at hfl ⊢
  clear hr hP hfr
  go_enter Tryz.func17, Tryz.ntmps17
  go_wp2_with (first
    | (go_at_call 28; (with_reducible refine hPa.out.mono ?_); rintro e w1 ⟨g, b, vi, vw, rfl, hS, hI, hW, hB⟩; obtain ⟨Ai, ci, rfl, hci, _⟩ := Kd.R_reads hI; obtain ⟨Aw, cw, rfl, hcw, _⟩ := Kd.R_reads hW; have S1 := Aside0.mk hS; have I1 := Aside0.mk hI; have W1 := Aside0.mk hW; have B1 := Aside0.mk hB; clear hS hI hW hB hPa)
    | (go_at_call 20; (with_reducible refine (Count_any _ _ _ _ (IsSet.below S1.out (below_alloc (Below.refl _ _) _))).mono ?_); rintro e w3 ⟨he, hd⟩; rw [hc1] at he; subst he; have hb13 := below_step (below_alloc (Below.refl w1.heap.size w1) (.cells #[.int .u8 0] 5)) hd.below; have R3 := Aside0.mk (Kd.R_lower (Kd.R_below (lit_R w1 0) hd.below) B1.out.size); have K3 := Aside0.mk (Kd.R_below I1.out hb13); have S3 := Aside0.mk (IsSet.below S1.out hb13); have B3 := Aside0.mk (below_step B1.out hb13); clear hd hb13 S1 I1 W1)
    | (at_builtin; refine Kd.R_append (Kd.int .u8) (w0 := w) w.heap.size rfl (.tmp 24) (.tmp 27) 25 5 (.int .u8 0) 1 rfl Tryz.underlying25 Bits.info5 rfl (by decide) (by decide) _ [0] 0 [.int .u8 0] (fun _ => True) (fun _ => False) rfl rfl rfl (fun _ h => h.elim) (fun _ _ => trivial) R3.out B3.out B3.out.size (by simp <;> omega) ?_; intro v6 w6 hR6 hB6 hg6 _; have R6 := Aside0.mk hR6; have K6 := Aside0.mk (growR K3.out R3.out (by simp [Kd.int, Kd.string, Kd.scalar]) hg6); have B6 := Aside0.mk hB6; clear hR6 hB6 hg6 R3 K3 B3)
    | (go_at_call 24; (with_reducible refine (forms_ok _).mono ?_); rintro e w7 ⟨rfl, rfl⟩; have hb67 := below_alloc (Below.refl w6.heap.size w6) (.cells #[.func (.func 43) #[] #[], .func (.func 44) #[] #[], .func (.func 45) #[] #[], .func (.func 46) #[] #[], .func (.func 47) #[] #[], .func (.func 48) #[] #[], .func (.func 49) #[] #[], .func (.func 50) #[] #[], .func (.func 51) #[] #[], .func (.func 52) #[] #[]] 60); have K7 := Aside0.mk (Kd.R_below K6.out hb67); have R7 := Aside0.mk (Kd.R_below R6.out hb67); have B7 := Aside0.mk (below_step B6.out hb67); clear hb67 K6 R6 B6)
    | (go_at_call 43; obtain ⟨A9, c9, e9, hc9, hC9⟩ := Kd.R_reads K7.out; injection e9 with e91 e92 e93; subst e91 e93; (with_reducible refine (HP.out _ _ _ hC9 hc9).mono ?_); rintro e w8 ⟨vp, e0, rfl, hRp, hb8⟩; obtain ⟨Ap, cp, rfl, hcp, hCp⟩ := Kd.R_reads hRp; have CP := Aside0.mk hCp; have R8 := Aside0.mk (Kd.R_below R7.out hb8); have B8 := Aside0.mk (below_step B7.out hb8); clear hRp hCp hb8 hC9 K7 R7 B7)
    | (at_builtin; refine Kd.R_append_row (w0 := w) (Value.int .u8) (0 : Int) (h1 := fun _ => rfl) w.heap.size rfl (.tmp 46) (.tmp 47) 25 5 (.int .u8 0) 1 rfl Tryz.underlying25 Bits.info5 rfl (by decide) _ ([0] ++ [0]) P Ap P.length cp (fun _ => True) rfl rfl (fun _ _ => trivial) R8.out CP.out B8.out B8.out.size (by simp <;> omega) ?_; intro v9 w9 hR9 hB9 hg9 _))
  go_ret
  exact ⟨_, rfl, hR9, hB9⟩
set_option maxRecDepth 100000 in
set_option maxHeartbeats 8000000 in
theorem lay0_yes (w : World) (A : Option Addr) (c : Nat) (l : List S40) (hr : Kd.C k40 w A l.length l) (hl : l.length ≤ 65536) (P : List Int) (hP : PutsTo (Kd.int .i64) 43 (intsOf l) P) (hPl : P.length ≤ 1099511627776) (hn : someNull l = true) :
    Calls Tryz.prog 17 #[.slice A l.length c, .int .i64 0] w fun e w' => ∃ v, e = .returned v ∧ BytesR w' w.heap.size v (frontOf l ++ [0] ++ P) ∧ Below w.heap.size w w' := by
  have hPa := Aside0.mk (parts_ok w A c l hr hl)
  have hc0 : 0 < cnt (marksOf l) (marksOf l).length := by rw [cnt_some, hn]
  have hfr : frontOf l = 1 :: pack (marksOf l) := by unfold frontOf; rw [hn]; rfl
  have hmk : (marksOf l).length ≤ 65536 := by simp [marksOf]; omega
  have hpk : (pack (marksOf l)).length ≤ 8193 := by rw [pack_len]; simp [marksOf]; omega
  have HP := Aside0.mk hP
  have hfl := front_len l
  rw [hfr] at hfl ⊢
  clear hr hP hfr
  go_enter Tryz.func17, Tryz.ntmps17
  go_wp2_with (first
    | (go_at_call 28; (with_reducible refine hPa.out.mono ?_); rintro e w1 ⟨g, b, vi, vw, rfl, hS, hI, hW, hB⟩; obtain ⟨Ai, ci, rfl, hci, _⟩ := Kd.R_reads hI; obtain ⟨Aw, cw, rfl, hcw, _⟩ := Kd.R_reads hW; have S1 := Aside0.mk hS; have I1 := Aside0.mk hI; have W1 := Aside0.mk hW; have B1 := Aside0.mk hB; clear hS hI hW hB hPa)
    | (go_at_call 20; (with_reducible refine (Count_any _ _ _ _ (IsSet.below S1.out (below_alloc (Below.refl _ _) _))).mono ?_); rintro e w3 ⟨he, hd⟩; subst he; have hb13 := below_step (below_alloc (Below.refl w1.heap.size w1) (.cells #[.int .u8 0] 5)) hd.below; have R3 := Aside0.mk (Kd.R_lower (Kd.R_below (lit_R w1 0) hd.below) B1.out.size); have K3 := Aside0.mk (Kd.R_below I1.out hb13); have S3 := Aside0.mk (IsSet.below S1.out hb13); have B3 := Aside0.mk (below_step B1.out hb13); clear hd hb13 S1 I1 W1)
    | (go_at_call 29; (with_reducible refine (Bytes_any _ _ _ _ (IsSet.below S3.out (below_alloc (Below.refl _ _) _))).mono ?_); rintro e w4 ⟨cb, rfl, hbc, hle, hb4⟩; have hb34 := below_step (below_alloc (Below.refl w3.heap.size w3) (.cells #[.int .u8 1] 5)) hb4; have R4 := Aside0.mk (Kd.R_lower (Kd.R_below (lit_R w3 1) hb4) B3.out.size); have C4 := Aside0.mk (blk_C hbc (by omega)); have K4 := Aside0.mk (Kd.R_below K3.out hb34); have B4 := Aside0.mk (below_step B3.out hb34); clear hbc hb4 hb34 R3 K3 S3 B3)
    | (at_builtin; refine Kd.R_append_row (w0 := w) (Value.int .u8) (0 : Int) (h1 := fun _ => rfl) w.heap.size rfl (.tmp 20) (.tmp 22) 25 5 (.int .u8 0) 1 rfl Tryz.underlying25 Bits.info5 rfl (by decide) _ [1] (pack (marksOf l)) (some ⟨cb, 0, none⟩) (((marksOf l).length + 7) / 8) (((marksOf l).length + 7) / 8) (fun _ => True) rfl rfl (fun _ _ => trivial) R4.out (by rw [← pack_len]; exact C4.out) B4.out B4.out.size (by simp <;> omega) ?_; intro v5 w5 hR5 hB5 hg5 _; have R3 := Aside0.mk hR5; have K3 := Aside0.mk (growR K4.out R4.out (by simp [Kd.int, Kd.string, Kd.scalar]) hg5); have B3 := Aside0.mk hB5; clear hR5 hB5 hg5 R4 K4 B4 C4)
    | (at_builtin; refine Kd.R_append (Kd.int .u8) (w0 := w) w.heap.size rfl (.tmp 24) (.tmp 27) 25 5 (.int .u8 0) 1 rfl Tryz.underlying25 Bits.info5 rfl (by decide) (by decide) _ ([1] ++ pack (marksOf l)) 0 [.int .u8 0] (fun _ => True) (fun _ => False) rfl rfl rfl (fun _ h => h.elim) (fun _ _ => trivial) R3.out B3.out B3.out.size (by simp <;> omega) ?_; intro v6 w6 hR6 hB6 hg6 _; have R6 := Aside0.mk hR6; have K6 := Aside0.mk (growR K3.out R3.out (by simp [Kd.int, Kd.string, Kd.scalar]) hg6); have B6 := Aside0.mk hB6; clear hR6 hB6 hg6 R3 K3 B3)
    | (go_at_call 24; (with_reducible refine (forms_ok _).mono ?_); rintro e w7 ⟨rfl, rfl⟩; have hb67 := below_alloc (Below.refl w6.heap.size w6) (.cells #[.func (.func 43) #[] #[], .func (.func 44) #[] #[], .func (.func 45) #[] #[], .func (.func 46) #[] #[], .func (.func 47) #[] #[], .func (.func 48) #[] #[], .func (.func 49) #[] #[], .func (.func 50) #[] #[], .func (.func 51) #[] #[], .func (.func 52) #[] #[]] 60); have K7 := Aside0.mk (Kd.R_below K6.out hb67); have R7 := Aside0.mk (Kd.R_below R6.out hb67); have B7 := Aside0.mk (below_step B6.out hb67); clear hb67 K6 R6 B6)
    | (go_at_call 43; obtain ⟨A9, c9, e9, hc9, hC9⟩ := Kd.R_reads K7.out; injection e9 with e91 e92 e93; subst e91 e93; (with_reducible refine (HP.out _ _ _ hC9 hc9).mono ?_); rintro e w8 ⟨vp, e0, rfl, hRp, hb8⟩; obtain ⟨Ap, cp, rfl, hcp, hCp⟩ := Kd.R_reads hRp; have CP := Aside0.mk hCp; have R8 := Aside0.mk (Kd.R_below R7.out hb8); have B8 := Aside0.mk (below_step B7.out hb8); clear hRp hCp hb8 hC9 K7 R7 B7)
    | (at_builtin; refine Kd.R_append_row (w0 := w) (Value.int .u8) (0 : Int) (h1 := fun _ => rfl) w.heap.size rfl (.tmp 46) (.tmp 47) 25 5 (.int .u8 0) 1 rfl Tryz.underlying25 Bits.info5 rfl (by decide) _ (([1] ++ pack (marksOf l)) ++ [0]) P Ap P.length cp (fun _ => True) rfl rfl (fun _ _ => trivial) R8.out CP.out B8.out B8.out.size (by simp <;> omega) ?_; intro v9 w9 hR9 hB9 hg9 _))
  go_ret
  exact ⟨_, rfl, hR9, hB9⟩
set_option maxRecDepth 100000 in
set_option maxHeartbeats 8000000 in
theorem lay1_no (w : World) (A : Option Addr) (c : Nat) (l : List S40) (hr : Kd.C k40 w A l.length l) (hl : l.length ≤ 65536) (P : List Int) (hP : PutsTo (Kd.int .i64) 45 (intsOf l) P) (hPl : P.length ≤ 1099511627776) (hn : someNull l = false) :
    Calls Tryz.prog 17 #[.slice A l.length c, .int .i64 1] w fun e w' => ∃ v, e = .returned v ∧ BytesR w' w.heap.size v (frontOf l ++ [1] ++ P) ∧ Below w.heap.size w w' := by
  have hPa := Aside0.mk (parts_ok w A c l hr hl)
  have hc0 : ¬ (0 < cnt (marksOf l) (marksOf l).length) := by rw [cnt_some, hn]; simp
  have hc1 : cnt (marksOf l) (marksOf l).length = 0 := by omega
  have hfr : frontOf l = [0] := by unfold frontOf; rw [hn]; rfl
  have HP := Aside0.mk hP
  have hfl := front_len l
  rw [hfr] at hfl ⊢
  clear hr hP hfr
  go_enter Tryz.func17, Tryz.ntmps17
  go_wp2_with (first
    | (go_at_call 28; (with_reducible refine hPa.out.mono ?_); rintro e w1 ⟨g, b, vi, vw, rfl, hS, hI, hW, hB⟩; obtain ⟨Ai, ci, rfl, hci, _⟩ := Kd.R_reads hI; obtain ⟨Aw, cw, rfl, hcw, _⟩ := Kd.R_reads hW; have S1 := Aside0.mk hS; have I1 := Aside0.mk hI; have W1 := Aside0.mk hW; have B1 := Aside0.mk hB; clear hS hI hW hB hPa)
    | (go_at_call 20; (with_reducible refine (Count_any _ _ _ _ (IsSet.below S1.out (below_alloc (Below.refl _ _) _))).mono ?_); rintro e w3 ⟨he, hd⟩; rw [hc1] at he; subst he; have hb13 := below_step (below_alloc (Below.refl w1.heap.size w1) (.cells #[.int .u8 0] 5)) hd.below; have R3 := Aside0.mk (Kd.R_lower (Kd.R_below (lit_R w1 0) hd.below) B1.out.size); have K3 := Aside0.mk (Kd.R_below I1.out hb13); have S3 := Aside0.mk (IsSet.below S1.out hb13); have B3 := Aside0.mk (below_step B1.out hb13); clear hd hb13 S1 I1 W1)
    | (at_builtin; refine Kd.R_append (Kd.int .u8) (w0 := w) w.heap.size rfl (.tmp 24) (.tmp 27) 25 5 (.int .u8 0) 1 rfl Tryz.underlying25 Bits.info5 rfl (by decide) (by decide) _ [0] 1 [.int .u8 1] (fun _ => True) (fun _ => False) rfl rfl rfl (fun _ h => h.elim) (fun _ _ => trivial) R3.out B3.out B3.out.size (by simp <;> omega) ?_; intro v6 w6 hR6 hB6 hg6 _; have R6 := Aside0.mk hR6; have K6 := Aside0.mk (growR K3.out R3.out (by simp [Kd.int, Kd.string, Kd.scalar]) hg6); have B6 := Aside0.mk hB6; clear hR6 hB6 hg6 R3 K3 B3)
    | (go_at_call 24; (with_reducible refine (forms_ok _).mono ?_); rintro e w7 ⟨rfl, rfl⟩; have hb67 := below_alloc (Below.refl w6.heap.size w6) (.cells #[.func (.func 43) #[] #[], .func (.func 44) #[] #[], .func (.func 45) #[] #[], .func (.func 46) #[] #[], .func (.func 47) #[] #[], .func (.func 48) #[] #[], .func (.func 49) #[] #[], .func (.func 50) #[] #[], .func (.func 51) #[] #[], .func (.func 52) #[] #[]] 60); have K7 := Aside0.mk (Kd.R_below K6.out hb67); have R7 := Aside0.mk (Kd.R_below R6.out hb67); have B7 := Aside0.mk (below_step B6.out hb67); clear hb67 K6 R6 B6)
    | (go_at_call 45; obtain ⟨A9, c9, e9, hc9, hC9⟩ := Kd.R_reads K7.out; injection e9 with e91 e92 e93; subst e91 e93; (with_reducible refine (HP.out _ _ _ hC9 hc9).mono ?_); rintro e w8 ⟨vp, e0, rfl, hRp, hb8⟩; obtain ⟨Ap, cp, rfl, hcp, hCp⟩ := Kd.R_reads hRp; have CP := Aside0.mk hCp; have R8 := Aside0.mk (Kd.R_below R7.out hb8); have B8 := Aside0.mk (below_step B7.out hb8); clear hRp hCp hb8 hC9 K7 R7 B7)
    | (at_builtin; refine Kd.R_append_row (w0 := w) (Value.int .u8) (0 : Int) (h1 := fun _ => rfl) w.heap.size rfl (.tmp 46) (.tmp 47) 25 5 (.int .u8 0) 1 rfl Tryz.underlying25 Bits.info5 rfl (by decide) _ ([0] ++ [1]) P Ap P.length cp (fun _ => True) rfl rfl (fun _ _ => trivial) R8.out CP.out B8.out B8.out.size (by simp <;> omega) ?_; intro v9 w9 hR9 hB9 hg9 _))
  go_ret
  exact ⟨_, rfl, hR9, hB9⟩
set_option maxRecDepth 100000 in
set_option maxHeartbeats 8000000 in
theorem lay1_yes (w : World) (A : Option Addr) (c : Nat) (l : List S40) (hr : Kd.C k40 w A l.length l) (hl : l.length ≤ 65536) (P : List Int) (hP : PutsTo (Kd.int .i64) 45 (intsOf l) P) (hPl : P.length ≤ 1099511627776) (hn : someNull l = true) :
    Calls Tryz.prog 17 #[.slice A l.length c, .int .i64 1] w fun e w' => ∃ v, e = .returned v ∧ BytesR w' w.heap.size v (frontOf l ++ [1] ++ P) ∧ Below w.heap.size w w' := by
  have hPa := Aside0.mk (parts_ok w A c l hr hl)
  have hc0 : 0 < cnt (marksOf l) (marksOf l).length := by rw [cnt_some, hn]
  have hfr : frontOf l = 1 :: pack (marksOf l) := by unfold frontOf; rw [hn]; rfl
  have hmk : (marksOf l).length ≤ 65536 := by simp [marksOf]; omega
  have hpk : (pack (marksOf l)).length ≤ 8193 := by rw [pack_len]; simp [marksOf]; omega
  have HP := Aside0.mk hP
  have hfl := front_len l
  rw [hfr] at hfl ⊢
  clear hr hP hfr
  go_enter Tryz.func17, Tryz.ntmps17
  go_wp2_with (first
    | (go_at_call 28; (with_reducible refine hPa.out.mono ?_); rintro e w1 ⟨g, b, vi, vw, rfl, hS, hI, hW, hB⟩; obtain ⟨Ai, ci, rfl, hci, _⟩ := Kd.R_reads hI; obtain ⟨Aw, cw, rfl, hcw, _⟩ := Kd.R_reads hW; have S1 := Aside0.mk hS; have I1 := Aside0.mk hI; have W1 := Aside0.mk hW; have B1 := Aside0.mk hB; clear hS hI hW hB hPa)
    | (go_at_call 20; (with_reducible refine (Count_any _ _ _ _ (IsSet.below S1.out (below_alloc (Below.refl _ _) _))).mono ?_); rintro e w3 ⟨he, hd⟩; subst he; have hb13 := below_step (below_alloc (Below.refl w1.heap.size w1) (.cells #[.int .u8 0] 5)) hd.below; have R3 := Aside0.mk (Kd.R_lower (Kd.R_below (lit_R w1 0) hd.below) B1.out.size); have K3 := Aside0.mk (Kd.R_below I1.out hb13); have S3 := Aside0.mk (IsSet.below S1.out hb13); have B3 := Aside0.mk (below_step B1.out hb13); clear hd hb13 S1 I1 W1)
    | (go_at_call 29; (with_reducible refine (Bytes_any _ _ _ _ (IsSet.below S3.out (below_alloc (Below.refl _ _) _))).mono ?_); rintro e w4 ⟨cb, rfl, hbc, hle, hb4⟩; have hb34 := below_step (below_alloc (Below.refl w3.heap.size w3) (.cells #[.int .u8 1] 5)) hb4; have R4 := Aside0.mk (Kd.R_lower (Kd.R_below (lit_R w3 1) hb4) B3.out.size); have C4 := Aside0.mk (blk_C hbc (by omega)); have K4 := Aside0.mk (Kd.R_below K3.out hb34); have B4 := Aside0.mk (below_step B3.out hb34); clear hbc hb4 hb34 R3 K3 S3 B3)
    | (at_builtin; refine Kd.R_append_row (w0 := w) (Value.int .u8) (0 : Int) (h1 := fun _ => rfl) w.heap.size rfl (.tmp 20) (.tmp 22) 25 5 (.int .u8 0) 1 rfl Tryz.underlying25 Bits.info5 rfl (by decide) _ [1] (pack (marksOf l)) (some ⟨cb, 0, none⟩) (((marksOf l).length + 7) / 8) (((marksOf l).length + 7) / 8) (fun _ => True) rfl rfl (fun _ _ => trivial) R4.out (by rw [← pack_len]; exact C4.out) B4.out B4.out.size (by simp <;> omega) ?_; intro v5 w5 hR5 hB5 hg5 _; have R3 := Aside0.mk hR5; have K3 := Aside0.mk (growR K4.out R4.out (by simp [Kd.int, Kd.string, Kd.scalar]) hg5); have B3 := Aside0.mk hB5; clear hR5 hB5 hg5 R4 K4 B4 C4)
    | (at_builtin; refine Kd.R_append (Kd.int .u8) (w0 := w) w.heap.size rfl (.tmp 24) (.tmp 27) 25 5 (.int .u8 0) 1 rfl Tryz.underlying25 Bits.info5 rfl (by decide) (by decide) _ ([1] ++ pack (marksOf l)) 1 [.int .u8 1] (fun _ => True) (fun _ => False) rfl rfl rfl (fun _ h => h.elim) (fun _ _ => trivial) R3.out B3.out B3.out.size (by simp <;> omega) ?_; intro v6 w6 hR6 hB6 hg6 _; have R6 := Aside0.mk hR6; have K6 := Aside0.mk (growR K3.out R3.out (by simp [Kd.int, Kd.string, Kd.scalar]) hg6); have B6 := Aside0.mk hB6; clear hR6 hB6 hg6 R3 K3 B3)
    | (go_at_call 24; (with_reducible refine (forms_ok _).mono ?_); rintro e w7 ⟨rfl, rfl⟩; have hb67 := below_alloc (Below.refl w6.heap.size w6) (.cells #[.func (.func 43) #[] #[], .func (.func 44) #[] #[], .func (.func 45) #[] #[], .func (.func 46) #[] #[], .func (.func 47) #[] #[], .func (.func 48) #[] #[], .func (.func 49) #[] #[], .func (.func 50) #[] #[], .func (.func 51) #[] #[], .func (.func 52) #[] #[]] 60); have K7 := Aside0.mk (Kd.R_below K6.out hb67); have R7 := Aside0.mk (Kd.R_below R6.out hb67); have B7 := Aside0.mk (below_step B6.out hb67); clear hb67 K6 R6 B6)
    | (go_at_call 45; obtain ⟨A9, c9, e9, hc9, hC9⟩ := Kd.R_reads K7.out; injection e9 with e91 e92 e93; subst e91 e93; (with_reducible refine (HP.out _ _ _ hC9 hc9).mono ?_); rintro e w8 ⟨vp, e0, rfl, hRp, hb8⟩; obtain ⟨Ap, cp, rfl, hcp, hCp⟩ := Kd.R_reads hRp; have CP := Aside0.mk hCp; have R8 := Aside0.mk (Kd.R_below R7.out hb8); have B8 := Aside0.mk (below_step B7.out hb8); clear hRp hCp hb8 hC9 K7 R7 B7)
    | (at_builtin; refine Kd.R_append_row (w0 := w) (Value.int .u8) (0 : Int) (h1 := fun _ => rfl) w.heap.size rfl (.tmp 46) (.tmp 47) 25 5 (.int .u8 0) 1 rfl Tryz.underlying25 Bits.info5 rfl (by decide) _ (([1] ++ pack (marksOf l)) ++ [1]) P Ap P.length cp (fun _ => True) rfl rfl (fun _ _ => trivial) R8.out CP.out B8.out B8.out.size (by simp <;> omega) ?_; intro v9 w9 hR9 hB9 hg9 _))
  go_ret
  exact ⟨_, rfl, hR9, hB9⟩
set_option maxRecDepth 100000 in
set_option maxHeartbeats 8000000 in
theorem lay2_no (w : World) (A : Option Addr) (c : Nat) (l : List S40) (hr : Kd.C k40 w A l.length l) (hl : l.length ≤ 65536) (P : List Int) (hP : PutsTo (Kd.int .i64) 47 (intsOf l) P) (hPl : P.length ≤ 1099511627776) (hn : someNull l = false) :
    Calls Tryz.prog 17 #[.slice A l.length c, .int .i64 2] w fun e w' => ∃ v, e = .returned v ∧ BytesR w' w.heap.size v (frontOf l ++ [2] ++ P) ∧ Below w.heap.size w w' := by
  have hPa := Aside0.mk (parts_ok w A c l hr hl)
  have hc0 : ¬ (0 < cnt (marksOf l) (marksOf l).length) := by rw [cnt_some, hn]; simp
  have hc1 : cnt (marksOf l) (marksOf l).length = 0 := by omega
  have hfr : frontOf l = [0] := by unfold frontOf; rw [hn]; rfl
  have HP := Aside0.mk hP
  have hfl := front_len l
  rw [hfr] at hfl ⊢
  clear hr hP hfr
  go_enter Tryz.func17, Tryz.ntmps17
  go_wp2_with (first
    | (go_at_call 28; (with_reducible refine hPa.out.mono ?_); rintro e w1 ⟨g, b, vi, vw, rfl, hS, hI, hW, hB⟩; obtain ⟨Ai, ci, rfl, hci, _⟩ := Kd.R_reads hI; obtain ⟨Aw, cw, rfl, hcw, _⟩ := Kd.R_reads hW; have S1 := Aside0.mk hS; have I1 := Aside0.mk hI; have W1 := Aside0.mk hW; have B1 := Aside0.mk hB; clear hS hI hW hB hPa)
    | (go_at_call 20; (with_reducible refine (Count_any _ _ _ _ (IsSet.below S1.out (below_alloc (Below.refl _ _) _))).mono ?_); rintro e w3 ⟨he, hd⟩; rw [hc1] at he; subst he; have hb13 := below_step (below_alloc (Below.refl w1.heap.size w1) (.cells #[.int .u8 0] 5)) hd.below; have R3 := Aside0.mk (Kd.R_lower (Kd.R_below (lit_R w1 0) hd.below) B1.out.size); have K3 := Aside0.mk (Kd.R_below I1.out hb13); have S3 := Aside0.mk (IsSet.below S1.out hb13); have B3 := Aside0.mk (below_step B1.out hb13); clear hd hb13 S1 I1 W1)
    | (at_builtin; refine Kd.R_append (Kd.int .u8) (w0 := w) w.heap.size rfl (.tmp 24) (.tmp 27) 25 5 (.int .u8 0) 1 rfl Tryz.underlying25 Bits.info5 rfl (by decide) (by decide) _ [0] 2 [.int .u8 2] (fun _ => True) (fun _ => False) rfl rfl rfl (fun _ h => h.elim) (fun _ _ => trivial) R3.out B3.out B3.out.size (by simp <;> omega) ?_; intro v6 w6 hR6 hB6 hg6 _; have R6 := Aside0.mk hR6; have K6 := Aside0.mk (growR K3.out R3.out (by simp [Kd.int, Kd.string, Kd.scalar]) hg6); have B6 := Aside0.mk hB6; clear hR6 hB6 hg6 R3 K3 B3)
    | (go_at_call 24; (with_reducible refine (forms_ok _).mono ?_); rintro e w7 ⟨rfl, rfl⟩; have hb67 := below_alloc (Below.refl w6.heap.size w6) (.cells #[.func (.func 43) #[] #[], .func (.func 44) #[] #[], .func (.func 45) #[] #[], .func (.func 46) #[] #[], .func (.func 47) #[] #[], .func (.func 48) #[] #[], .func (.func 49) #[] #[], .func (.func 50) #[] #[], .func (.func 51) #[] #[], .func (.func 52) #[] #[]] 60); have K7 := Aside0.mk (Kd.R_below K6.out hb67); have R7 := Aside0.mk (Kd.R_below R6.out hb67); have B7 := Aside0.mk (below_step B6.out hb67); clear hb67 K6 R6 B6)
    | (go_at_call 47; obtain ⟨A9, c9, e9, hc9, hC9⟩ := Kd.R_reads K7.out; injection e9 with e91 e92 e93; subst e91 e93; (with_reducible refine (HP.out _ _ _ hC9 hc9).mono ?_); rintro e w8 ⟨vp, e0, rfl, hRp, hb8⟩; obtain ⟨Ap, cp, rfl, hcp, hCp⟩ := Kd.R_reads hRp; have CP := Aside0.mk hCp; have R8 := Aside0.mk (Kd.R_below R7.out hb8); have B8 := Aside0.mk (below_step B7.out hb8); clear hRp hCp hb8 hC9 K7 R7 B7)
    | (at_builtin; refine Kd.R_append_row (w0 := w) (Value.int .u8) (0 : Int) (h1 := fun _ => rfl) w.heap.size rfl (.tmp 46) (.tmp 47) 25 5 (.int .u8 0) 1 rfl Tryz.underlying25 Bits.info5 rfl (by decide) _ ([0] ++ [2]) P Ap P.length cp (fun _ => True) rfl rfl (fun _ _ => trivial) R8.out CP.out B8.out B8.out.size (by simp <;> omega) ?_; intro v9 w9 hR9 hB9 hg9 _))
  go_ret
  exact ⟨_, rfl, hR9, hB9⟩
set_option maxRecDepth 100000 in
set_option maxHeartbeats 8000000 in
theorem lay2_yes (w : World) (A : Option Addr) (c : Nat) (l : List S40) (hr : Kd.C k40 w A l.length l) (hl : l.length ≤ 65536) (P : List Int) (hP : PutsTo (Kd.int .i64) 47 (intsOf l) P) (hPl : P.length ≤ 1099511627776) (hn : someNull l = true) :
    Calls Tryz.prog 17 #[.slice A l.length c, .int .i64 2] w fun e w' => ∃ v, e = .returned v ∧ BytesR w' w.heap.size v (frontOf l ++ [2] ++ P) ∧ Below w.heap.size w w' := by
  have hPa := Aside0.mk (parts_ok w A c l hr hl)
  have hc0 : 0 < cnt (marksOf l) (marksOf l).length := by rw [cnt_some, hn]
  have hfr : frontOf l = 1 :: pack (marksOf l) := by unfold frontOf; rw [hn]; rfl
  have hmk : (marksOf l).length ≤ 65536 := by simp [marksOf]; omega
  have hpk : (pack (marksOf l)).length ≤ 8193 := by rw [pack_len]; simp [marksOf]; omega
  have HP := Aside0.mk hP
  have hfl := front_len l
  rw [hfr] at hfl ⊢
  clear hr hP hfr
  go_enter Tryz.func17, Tryz.ntmps17
  go_wp2_with (first
    | (go_at_call 28; (with_reducible refine hPa.out.mono ?_); rintro e w1 ⟨g, b, vi, vw, rfl, hS, hI, hW, hB⟩; obtain ⟨Ai, ci, rfl, hci, _⟩ := Kd.R_reads hI; obtain ⟨Aw, cw, rfl, hcw, _⟩ := Kd.R_reads hW; have S1 := Aside0.mk hS; have I1 := Aside0.mk hI; have W1 := Aside0.mk hW; have B1 := Aside0.mk hB; clear hS hI hW hB hPa)
    | (go_at_call 20; (with_reducible refine (Count_any _ _ _ _ (IsSet.below S1.out (below_alloc (Below.refl _ _) _))).mono ?_); rintro e w3 ⟨he, hd⟩; subst he; have hb13 := below_step (below_alloc (Below.refl w1.heap.size w1) (.cells #[.int .u8 0] 5)) hd.below; have R3 := Aside0.mk (Kd.R_lower (Kd.R_below (lit_R w1 0) hd.below) B1.out.size); have K3 := Aside0.mk (Kd.R_below I1.out hb13); have S3 := Aside0.mk (IsSet.below S1.out hb13); have B3 := Aside0.mk (below_step B1.out hb13); clear hd hb13 S1 I1 W1)
    | (go_at_call 29; (with_reducible refine (Bytes_any _ _ _ _ (IsSet.below S3.out (below_alloc (Below.refl _ _) _))).mono ?_); rintro e w4 ⟨cb, rfl, hbc, hle, hb4⟩; have hb34 := below_step (below_alloc (Below.refl w3.heap.size w3) (.cells #[.int .u8 1] 5)) hb4; have R4 := Aside0.mk (Kd.R_lower (Kd.R_below (lit_R w3 1) hb4) B3.out.size); have C4 := Aside0.mk (blk_C hbc (by omega)); have K4 := Aside0.mk (Kd.R_below K3.out hb34); have B4 := Aside0.mk (below_step B3.out hb34); clear hbc hb4 hb34 R3 K3 S3 B3)
    | (at_builtin; refine Kd.R_append_row (w0 := w) (Value.int .u8) (0 : Int) (h1 := fun _ => rfl) w.heap.size rfl (.tmp 20) (.tmp 22) 25 5 (.int .u8 0) 1 rfl Tryz.underlying25 Bits.info5 rfl (by decide) _ [1] (pack (marksOf l)) (some ⟨cb, 0, none⟩) (((marksOf l).length + 7) / 8) (((marksOf l).length + 7) / 8) (fun _ => True) rfl rfl (fun _ _ => trivial) R4.out (by rw [← pack_len]; exact C4.out) B4.out B4.out.size (by simp <;> omega) ?_; intro v5 w5 hR5 hB5 hg5 _; have R3 := Aside0.mk hR5; have K3 := Aside0.mk (growR K4.out R4.out (by simp [Kd.int, Kd.string, Kd.scalar]) hg5); have B3 := Aside0.mk hB5; clear hR5 hB5 hg5 R4 K4 B4 C4)
    | (at_builtin; refine Kd.R_append (Kd.int .u8) (w0 := w) w.heap.size rfl (.tmp 24) (.tmp 27) 25 5 (.int .u8 0) 1 rfl Tryz.underlying25 Bits.info5 rfl (by decide) (by decide) _ ([1] ++ pack (marksOf l)) 2 [.int .u8 2] (fun _ => True) (fun _ => False) rfl rfl rfl (fun _ h => h.elim) (fun _ _ => trivial) R3.out B3.out B3.out.size (by simp <;> omega) ?_; intro v6 w6 hR6 hB6 hg6 _; have R6 := Aside0.mk hR6; have K6 := Aside0.mk (growR K3.out R3.out (by simp [Kd.int, Kd.string, Kd.scalar]) hg6); have B6 := Aside0.mk hB6; clear hR6 hB6 hg6 R3 K3 B3)
    | (go_at_call 24; (with_reducible refine (forms_ok _).mono ?_); rintro e w7 ⟨rfl, rfl⟩; have hb67 := below_alloc (Below.refl w6.heap.size w6) (.cells #[.func (.func 43) #[] #[], .func (.func 44) #[] #[], .func (.func 45) #[] #[], .func (.func 46) #[] #[], .func (.func 47) #[] #[], .func (.func 48) #[] #[], .func (.func 49) #[] #[], .func (.func 50) #[] #[], .func (.func 51) #[] #[], .func (.func 52) #[] #[]] 60); have K7 := Aside0.mk (Kd.R_below K6.out hb67); have R7 := Aside0.mk (Kd.R_below R6.out hb67); have B7 := Aside0.mk (below_step B6.out hb67); clear hb67 K6 R6 B6)
    | (go_at_call 47; obtain ⟨A9, c9, e9, hc9, hC9⟩ := Kd.R_reads K7.out; injection e9 with e91 e92 e93; subst e91 e93; (with_reducible refine (HP.out _ _ _ hC9 hc9).mono ?_); rintro e w8 ⟨vp, e0, rfl, hRp, hb8⟩; obtain ⟨Ap, cp, rfl, hcp, hCp⟩ := Kd.R_reads hRp; have CP := Aside0.mk hCp; have R8 := Aside0.mk (Kd.R_below R7.out hb8); have B8 := Aside0.mk (below_step B7.out hb8); clear hRp hCp hb8 hC9 K7 R7 B7)
    | (at_builtin; refine Kd.R_append_row (w0 := w) (Value.int .u8) (0 : Int) (h1 := fun _ => rfl) w.heap.size rfl (.tmp 46) (.tmp 47) 25 5 (.int .u8 0) 1 rfl Tryz.underlying25 Bits.info5 rfl (by decide) _ (([1] ++ pack (marksOf l)) ++ [2]) P Ap P.length cp (fun _ => True) rfl rfl (fun _ _ => trivial) R8.out CP.out B8.out B8.out.size (by simp <;> omega) ?_; intro v9 w9 hR9 hB9 hg9 _))
  go_ret
  exact ⟨_, rfl, hR9, hB9⟩
set_option maxRecDepth 100000 in
set_option maxHeartbeats 8000000 in
theorem lay3_no (w : World) (A : Option Addr) (c : Nat) (l : List S40) (hr : Kd.C k40 w A l.length l) (hl : l.length ≤ 65536) (P : List Int) (hP : PutsTo (Kd.int .i64) 49 (intsOf l) P) (hPl : P.length ≤ 1099511627776) (hn : someNull l = false) :
    Calls Tryz.prog 17 #[.slice A l.length c, .int .i64 3] w fun e w' => ∃ v, e = .returned v ∧ BytesR w' w.heap.size v (frontOf l ++ [3] ++ P) ∧ Below w.heap.size w w' := by
  have hPa := Aside0.mk (parts_ok w A c l hr hl)
  have hc0 : ¬ (0 < cnt (marksOf l) (marksOf l).length) := by rw [cnt_some, hn]; simp
  have hc1 : cnt (marksOf l) (marksOf l).length = 0 := by omega
  have hfr : frontOf l = [0] := by unfold frontOf; rw [hn]; rfl
  have HP := Aside0.mk hP
  have hfl := front_len l
  rw [hfr] at hfl ⊢
  clear hr hP hfr
  go_enter Tryz.func17, Tryz.ntmps17
  go_wp2_with (first
    | (go_at_call 28; (with_reducible refine hPa.out.mono ?_); rintro e w1 ⟨g, b, vi, vw, rfl, hS, hI, hW, hB⟩; obtain ⟨Ai, ci, rfl, hci, _⟩ := Kd.R_reads hI; obtain ⟨Aw, cw, rfl, hcw, _⟩ := Kd.R_reads hW; have S1 := Aside0.mk hS; have I1 := Aside0.mk hI; have W1 := Aside0.mk hW; have B1 := Aside0.mk hB; clear hS hI hW hB hPa)
    | (go_at_call 20; (with_reducible refine (Count_any _ _ _ _ (IsSet.below S1.out (below_alloc (Below.refl _ _) _))).mono ?_); rintro e w3 ⟨he, hd⟩; rw [hc1] at he; subst he; have hb13 := below_step (below_alloc (Below.refl w1.heap.size w1) (.cells #[.int .u8 0] 5)) hd.below; have R3 := Aside0.mk (Kd.R_lower (Kd.R_below (lit_R w1 0) hd.below) B1.out.size); have K3 := Aside0.mk (Kd.R_below I1.out hb13); have S3 := Aside0.mk (IsSet.below S1.out hb13); have B3 := Aside0.mk (below_step B1.out hb13); clear hd hb13 S1 I1 W1)
    | (at_builtin; refine Kd.R_append (Kd.int .u8) (w0 := w) w.heap.size rfl (.tmp 24) (.tmp 27) 25 5 (.int .u8 0) 1 rfl Tryz.underlying25 Bits.info5 rfl (by decide) (by decide) _ [0] 3 [.int .u8 3] (fun _ => True) (fun _ => False) rfl rfl rfl (fun _ h => h.elim) (fun _ _ => trivial) R3.out B3.out B3.out.size (by simp <;> omega) ?_; intro v6 w6 hR6 hB6 hg6 _; have R6 := Aside0.mk hR6; have K6 := Aside0.mk (growR K3.out R3.out (by simp [Kd.int, Kd.string, Kd.scalar]) hg6); have B6 := Aside0.mk hB6; clear hR6 hB6 hg6 R3 K3 B3)
    | (go_at_call 24; (with_reducible refine (forms_ok _).mono ?_); rintro e w7 ⟨rfl, rfl⟩; have hb67 := below_alloc (Below.refl w6.heap.size w6) (.cells #[.func (.func 43) #[] #[], .func (.func 44) #[] #[], .func (.func 45) #[] #[], .func (.func 46) #[] #[], .func (.func 47) #[] #[], .func (.func 48) #[] #[], .func (.func 49) #[] #[], .func (.func 50) #[] #[], .func (.func 51) #[] #[], .func (.func 52) #[] #[]] 60); have K7 := Aside0.mk (Kd.R_below K6.out hb67); have R7 := Aside0.mk (Kd.R_below R6.out hb67); have B7 := Aside0.mk (below_step B6.out hb67); clear hb67 K6 R6 B6)
    | (go_at_call 49; obtain ⟨A9, c9, e9, hc9, hC9⟩ := Kd.R_reads K7.out; injection e9 with e91 e92 e93; subst e91 e93; (with_reducible refine (HP.out _ _ _ hC9 hc9).mono ?_); rintro e w8 ⟨vp, e0, rfl, hRp, hb8⟩; obtain ⟨Ap, cp, rfl, hcp, hCp⟩ := Kd.R_reads hRp; have CP := Aside0.mk hCp; have R8 := Aside0.mk (Kd.R_below R7.out hb8); have B8 := Aside0.mk (below_step B7.out hb8); clear hRp hCp hb8 hC9 K7 R7 B7)
    | (at_builtin; refine Kd.R_append_row (w0 := w) (Value.int .u8) (0 : Int) (h1 := fun _ => rfl) w.heap.size rfl (.tmp 46) (.tmp 47) 25 5 (.int .u8 0) 1 rfl Tryz.underlying25 Bits.info5 rfl (by decide) _ ([0] ++ [3]) P Ap P.length cp (fun _ => True) rfl rfl (fun _ _ => trivial) R8.out CP.out B8.out B8.out.size (by simp <;> omega) ?_; intro v9 w9 hR9 hB9 hg9 _))
  go_ret
  exact ⟨_, rfl, hR9, hB9⟩
set_option maxRecDepth 100000 in
set_option maxHeartbeats 8000000 in
theorem lay3_yes (w : World) (A : Option Addr) (c : Nat) (l : List S40) (hr : Kd.C k40 w A l.length l) (hl : l.length ≤ 65536) (P : List Int) (hP : PutsTo (Kd.int .i64) 49 (intsOf l) P) (hPl : P.length ≤ 1099511627776) (hn : someNull l = true) :
    Calls Tryz.prog 17 #[.slice A l.length c, .int .i64 3] w fun e w' => ∃ v, e = .returned v ∧ BytesR w' w.heap.size v (frontOf l ++ [3] ++ P) ∧ Below w.heap.size w w' := by
  have hPa := Aside0.mk (parts_ok w A c l hr hl)
  have hc0 : 0 < cnt (marksOf l) (marksOf l).length := by rw [cnt_some, hn]
  have hfr : frontOf l = 1 :: pack (marksOf l) := by unfold frontOf; rw [hn]; rfl
  have hmk : (marksOf l).length ≤ 65536 := by simp [marksOf]; omega
  have hpk : (pack (marksOf l)).length ≤ 8193 := by rw [pack_len]; simp [marksOf]; omega
  have HP := Aside0.mk hP
  have hfl := front_len l
  rw [hfr] at hfl ⊢
  clear hr hP hfr
  go_enter Tryz.func17, Tryz.ntmps17
  go_wp2_with (first
    | (go_at_call 28; (with_reducible refine hPa.out.mono ?_); rintro e w1 ⟨g, b, vi, vw, rfl, hS, hI, hW, hB⟩; obtain ⟨Ai, ci, rfl, hci, _⟩ := Kd.R_reads hI; obtain ⟨Aw, cw, rfl, hcw, _⟩ := Kd.R_reads hW; have S1 := Aside0.mk hS; have I1 := Aside0.mk hI; have W1 := Aside0.mk hW; have B1 := Aside0.mk hB; clear hS hI hW hB hPa)
    | (go_at_call 20; (with_reducible refine (Count_any _ _ _ _ (IsSet.below S1.out (below_alloc (Below.refl _ _) _))).mono ?_); rintro e w3 ⟨he, hd⟩; subst he; have hb13 := below_step (below_alloc (Below.refl w1.heap.size w1) (.cells #[.int .u8 0] 5)) hd.below; have R3 := Aside0.mk (Kd.R_lower (Kd.R_below (lit_R w1 0) hd.below) B1.out.size); have K3 := Aside0.mk (Kd.R_below I1.out hb13); have S3 := Aside0.mk (IsSet.below S1.out hb13); have B3 := Aside0.mk (below_step B1.out hb13); clear hd hb13 S1 I1 W1)
    | (go_at_call 29; (with_reducible refine (Bytes_any _ _ _ _ (IsSet.below S3.out (below_alloc (Below.refl _ _) _))).mono ?_); rintro e w4 ⟨cb, rfl, hbc, hle, hb4⟩; have hb34 := below_step (below_alloc (Below.refl w3.heap.size w3) (.cells #[.int .u8 1] 5)) hb4; have R4 := Aside0.mk (Kd.R_lower (Kd.R_below (lit_R w3 1) hb4) B3.out.size); have C4 := Aside0.mk (blk_C hbc (by omega)); have K4 := Aside0.mk (Kd.R_below K3.out hb34); have B4 := Aside0.mk (below_step B3.out hb34); clear hbc hb4 hb34 R3 K3 S3 B3)
    | (at_builtin; refine Kd.R_append_row (w0 := w) (Value.int .u8) (0 : Int) (h1 := fun _ => rfl) w.heap.size rfl (.tmp 20) (.tmp 22) 25 5 (.int .u8 0) 1 rfl Tryz.underlying25 Bits.info5 rfl (by decide) _ [1] (pack (marksOf l)) (some ⟨cb, 0, none⟩) (((marksOf l).length + 7) / 8) (((marksOf l).length + 7) / 8) (fun _ => True) rfl rfl (fun _ _ => trivial) R4.out (by rw [← pack_len]; exact C4.out) B4.out B4.out.size (by simp <;> omega) ?_; intro v5 w5 hR5 hB5 hg5 _; have R3 := Aside0.mk hR5; have K3 := Aside0.mk (growR K4.out R4.out (by simp [Kd.int, Kd.string, Kd.scalar]) hg5); have B3 := Aside0.mk hB5; clear hR5 hB5 hg5 R4 K4 B4 C4)
    | (at_builtin; refine Kd.R_append (Kd.int .u8) (w0 := w) w.heap.size rfl (.tmp 24) (.tmp 27) 25 5 (.int .u8 0) 1 rfl Tryz.underlying25 Bits.info5 rfl (by decide) (by decide) _ ([1] ++ pack (marksOf l)) 3 [.int .u8 3] (fun _ => True) (fun _ => False) rfl rfl rfl (fun _ h => h.elim) (fun _ _ => trivial) R3.out B3.out B3.out.size (by simp <;> omega) ?_; intro v6 w6 hR6 hB6 hg6 _; have R6 := Aside0.mk hR6; have K6 := Aside0.mk (growR K3.out R3.out (by simp [Kd.int, Kd.string, Kd.scalar]) hg6); have B6 := Aside0.mk hB6; clear hR6 hB6 hg6 R3 K3 B3)
    | (go_at_call 24; (with_reducible refine (forms_ok _).mono ?_); rintro e w7 ⟨rfl, rfl⟩; have hb67 := below_alloc (Below.refl w6.heap.size w6) (.cells #[.func (.func 43) #[] #[], .func (.func 44) #[] #[], .func (.func 45) #[] #[], .func (.func 46) #[] #[], .func (.func 47) #[] #[], .func (.func 48) #[] #[], .func (.func 49) #[] #[], .func (.func 50) #[] #[], .func (.func 51) #[] #[], .func (.func 52) #[] #[]] 60); have K7 := Aside0.mk (Kd.R_below K6.out hb67); have R7 := Aside0.mk (Kd.R_below R6.out hb67); have B7 := Aside0.mk (below_step B6.out hb67); clear hb67 K6 R6 B6)
    | (go_at_call 49; obtain ⟨A9, c9, e9, hc9, hC9⟩ := Kd.R_reads K7.out; injection e9 with e91 e92 e93; subst e91 e93; (with_reducible refine (HP.out _ _ _ hC9 hc9).mono ?_); rintro e w8 ⟨vp, e0, rfl, hRp, hb8⟩; obtain ⟨Ap, cp, rfl, hcp, hCp⟩ := Kd.R_reads hRp; have CP := Aside0.mk hCp; have R8 := Aside0.mk (Kd.R_below R7.out hb8); have B8 := Aside0.mk (below_step B7.out hb8); clear hRp hCp hb8 hC9 K7 R7 B7)
    | (at_builtin; refine Kd.R_append_row (w0 := w) (Value.int .u8) (0 : Int) (h1 := fun _ => rfl) w.heap.size rfl (.tmp 46) (.tmp 47) 25 5 (.int .u8 0) 1 rfl Tryz.underlying25 Bits.info5 rfl (by decide) _ (([1] ++ pack (marksOf l)) ++ [3]) P Ap P.length cp (fun _ => True) rfl rfl (fun _ _ => trivial) R8.out CP.out B8.out B8.out.size (by simp <;> omega) ?_; intro v9 w9 hR9 hB9 hg9 _))
  go_ret
  exact ⟨_, rfl, hR9, hB9⟩
set_option maxRecDepth 100000 in
set_option maxHeartbeats 8000000 in
theorem lay4_no (w : World) (A : Option Addr) (c : Nat) (l : List S40) (hr : Kd.C k40 w A l.length l) (hl : l.length ≤ 65536) (P : List Int) (hP : PutsTo (Kd.int .i64) 51 (intsOf l) P) (hPl : P.length ≤ 1099511627776) (hn : someNull l = false) :
    Calls Tryz.prog 17 #[.slice A l.length c, .int .i64 4] w fun e w' => ∃ v, e = .returned v ∧ BytesR w' w.heap.size v (frontOf l ++ [4] ++ P) ∧ Below w.heap.size w w' := by
  have hPa := Aside0.mk (parts_ok w A c l hr hl)
  have hc0 : ¬ (0 < cnt (marksOf l) (marksOf l).length) := by rw [cnt_some, hn]; simp
  have hc1 : cnt (marksOf l) (marksOf l).length = 0 := by omega
  have hfr : frontOf l = [0] := by unfold frontOf; rw [hn]; rfl
  have HP := Aside0.mk hP
  have hfl := front_len l
  rw [hfr] at hfl ⊢
  clear hr hP hfr
  go_enter Tryz.func17, Tryz.ntmps17
  go_wp2_with (first
    | (go_at_call 28; (with_reducible refine hPa.out.mono ?_); rintro e w1 ⟨g, b, vi, vw, rfl, hS, hI, hW, hB⟩; obtain ⟨Ai, ci, rfl, hci, _⟩ := Kd.R_reads hI; obtain ⟨Aw, cw, rfl, hcw, _⟩ := Kd.R_reads hW; have S1 := Aside0.mk hS; have I1 := Aside0.mk hI; have W1 := Aside0.mk hW; have B1 := Aside0.mk hB; clear hS hI hW hB hPa)
    | (go_at_call 20; (with_reducible refine (Count_any _ _ _ _ (IsSet.below S1.out (below_alloc (Below.refl _ _) _))).mono ?_); rintro e w3 ⟨he, hd⟩; rw [hc1] at he; subst he; have hb13 := below_step (below_alloc (Below.refl w1.heap.size w1) (.cells #[.int .u8 0] 5)) hd.below; have R3 := Aside0.mk (Kd.R_lower (Kd.R_below (lit_R w1 0) hd.below) B1.out.size); have K3 := Aside0.mk (Kd.R_below I1.out hb13); have S3 := Aside0.mk (IsSet.below S1.out hb13); have B3 := Aside0.mk (below_step B1.out hb13); clear hd hb13 S1 I1 W1)
    | (at_builtin; refine Kd.R_append (Kd.int .u8) (w0 := w) w.heap.size rfl (.tmp 24) (.tmp 27) 25 5 (.int .u8 0) 1 rfl Tryz.underlying25 Bits.info5 rfl (by decide) (by decide) _ [0] 4 [.int .u8 4] (fun _ => True) (fun _ => False) rfl rfl rfl (fun _ h => h.elim) (fun _ _ => trivial) R3.out B3.out B3.out.size (by simp <;> omega) ?_; intro v6 w6 hR6 hB6 hg6 _; have R6 := Aside0.mk hR6; have K6 := Aside0.mk (growR K3.out R3.out (by simp [Kd.int, Kd.string, Kd.scalar]) hg6); have B6 := Aside0.mk hB6; clear hR6 hB6 hg6 R3 K3 B3)
    | (go_at_call 24; (with_reducible refine (forms_ok _).mono ?_); rintro e w7 ⟨rfl, rfl⟩; have hb67 := below_alloc (Below.refl w6.heap.size w6) (.cells #[.func (.func 43) #[] #[], .func (.func 44) #[] #[], .func (.func 45) #[] #[], .func (.func 46) #[] #[], .func (.func 47) #[] #[], .func (.func 48) #[] #[], .func (.func 49) #[] #[], .func (.func 50) #[] #[], .func (.func 51) #[] #[], .func (.func 52) #[] #[]] 60); have K7 := Aside0.mk (Kd.R_below K6.out hb67); have R7 := Aside0.mk (Kd.R_below R6.out hb67); have B7 := Aside0.mk (below_step B6.out hb67); clear hb67 K6 R6 B6)
    | (go_at_call 51; obtain ⟨A9, c9, e9, hc9, hC9⟩ := Kd.R_reads K7.out; injection e9 with e91 e92 e93; subst e91 e93; (with_reducible refine (HP.out _ _ _ hC9 hc9).mono ?_); rintro e w8 ⟨vp, e0, rfl, hRp, hb8⟩; obtain ⟨Ap, cp, rfl, hcp, hCp⟩ := Kd.R_reads hRp; have CP := Aside0.mk hCp; have R8 := Aside0.mk (Kd.R_below R7.out hb8); have B8 := Aside0.mk (below_step B7.out hb8); clear hRp hCp hb8 hC9 K7 R7 B7)
    | (at_builtin; refine Kd.R_append_row (w0 := w) (Value.int .u8) (0 : Int) (h1 := fun _ => rfl) w.heap.size rfl (.tmp 46) (.tmp 47) 25 5 (.int .u8 0) 1 rfl Tryz.underlying25 Bits.info5 rfl (by decide) _ ([0] ++ [4]) P Ap P.length cp (fun _ => True) rfl rfl (fun _ _ => trivial) R8.out CP.out B8.out B8.out.size (by simp <;> omega) ?_; intro v9 w9 hR9 hB9 hg9 _))
  go_ret
  exact ⟨_, rfl, hR9, hB9⟩
set_option maxRecDepth 100000 in
set_option maxHeartbeats 8000000 in
theorem lay4_yes (w : World) (A : Option Addr) (c : Nat) (l : List S40) (hr : Kd.C k40 w A l.length l) (hl : l.length ≤ 65536) (P : List Int) (hP : PutsTo (Kd.int .i64) 51 (intsOf l) P) (hPl : P.length ≤ 1099511627776) (hn : someNull l = true) :
    Calls Tryz.prog 17 #[.slice A l.length c, .int .i64 4] w fun e w' => ∃ v, e = .returned v ∧ BytesR w' w.heap.size v (frontOf l ++ [4] ++ P) ∧ Below w.heap.size w w' := by
  have hPa := Aside0.mk (parts_ok w A c l hr hl)
  have hc0 : 0 < cnt (marksOf l) (marksOf l).length := by rw [cnt_some, hn]
  have hfr : frontOf l = 1 :: pack (marksOf l) := by unfold frontOf; rw [hn]; rfl
  have hmk : (marksOf l).length ≤ 65536 := by simp [marksOf]; omega
  have hpk : (pack (marksOf l)).length ≤ 8193 := by rw [pack_len]; simp [marksOf]; omega
  have HP := Aside0.mk hP
  have hfl := front_len l
  rw [hfr] at hfl ⊢
  clear hr hP hfr
  go_enter Tryz.func17, Tryz.ntmps17
  go_wp2_with (first
    | (go_at_call 28; (with_reducible refine hPa.out.mono ?_); rintro e w1 ⟨g, b, vi, vw, rfl, hS, hI, hW, hB⟩; obtain ⟨Ai, ci, rfl, hci, _⟩ := Kd.R_reads hI; obtain ⟨Aw, cw, rfl, hcw, _⟩ := Kd.R_reads hW; have S1 := Aside0.mk hS; have I1 := Aside0.mk hI; have W1 := Aside0.mk hW; have B1 := Aside0.mk hB; clear hS hI hW hB hPa)
    | (go_at_call 20; (with_reducible refine (Count_any _ _ _ _ (IsSet.below S1.out (below_alloc (Below.refl _ _) _))).mono ?_); rintro e w3 ⟨he, hd⟩; subst he; have hb13 := below_step (below_alloc (Below.refl w1.heap.size w1) (.cells #[.int .u8 0] 5)) hd.below; have R3 := Aside0.mk (Kd.R_lower (Kd.R_below (lit_R w1 0) hd.below) B1.out.size); have K3 := Aside0.mk (Kd.R_below I1.out hb13); have S3 := Aside0.mk (IsSet.below S1.out hb13); have B3 := Aside0.mk (below_step B1.out hb13); clear hd hb13 S1 I1 W1)
    | (go_at_call 29; (with_reducible refine (Bytes_any _ _ _ _ (IsSet.below S3.out (below_alloc (Below.refl _ _) _))).mono ?_); rintro e w4 ⟨cb, rfl, hbc, hle, hb4⟩; have hb34 := below_step (below_alloc (Below.refl w3.heap.size w3) (.cells #[.int .u8 1] 5)) hb4; have R4 := Aside0.mk (Kd.R_lower (Kd.R_below (lit_R w3 1) hb4) B3.out.size); have C4 := Aside0.mk (blk_C hbc (by omega)); have K4 := Aside0.mk (Kd.R_below K3.out hb34); have B4 := Aside0.mk (below_step B3.out hb34); clear hbc hb4 hb34 R3 K3 S3 B3)
    | (at_builtin; refine Kd.R_append_row (w0 := w) (Value.int .u8) (0 : Int) (h1 := fun _ => rfl) w.heap.size rfl (.tmp 20) (.tmp 22) 25 5 (.int .u8 0) 1 rfl Tryz.underlying25 Bits.info5 rfl (by decide) _ [1] (pack (marksOf l)) (some ⟨cb, 0, none⟩) (((marksOf l).length + 7) / 8) (((marksOf l).length + 7) / 8) (fun _ => True) rfl rfl (fun _ _ => trivial) R4.out (by rw [← pack_len]; exact C4.out) B4.out B4.out.size (by simp <;> omega) ?_; intro v5 w5 hR5 hB5 hg5 _; have R3 := Aside0.mk hR5; have K3 := Aside0.mk (growR K4.out R4.out (by simp [Kd.int, Kd.string, Kd.scalar]) hg5); have B3 := Aside0.mk hB5; clear hR5 hB5 hg5 R4 K4 B4 C4)
    | (at_builtin; refine Kd.R_append (Kd.int .u8) (w0 := w) w.heap.size rfl (.tmp 24) (.tmp 27) 25 5 (.int .u8 0) 1 rfl Tryz.underlying25 Bits.info5 rfl (by decide) (by decide) _ ([1] ++ pack (marksOf l)) 4 [.int .u8 4] (fun _ => True) (fun _ => False) rfl rfl rfl (fun _ h => h.elim) (fun _ _ => trivial) R3.out B3.out B3.out.size (by simp <;> omega) ?_; intro v6 w6 hR6 hB6 hg6 _; have R6 := Aside0.mk hR6; have K6 := Aside0.mk (growR K3.out R3.out (by simp [Kd.int, Kd.string, Kd.scalar]) hg6); have B6 := Aside0.mk hB6; clear hR6 hB6 hg6 R3 K3 B3)
    | (go_at_call 24; (with_reducible refine (forms_ok _).mono ?_); rintro e w7 ⟨rfl, rfl⟩; have hb67 := below_alloc (Below.refl w6.heap.size w6) (.cells #[.func (.func 43) #[] #[], .func (.func 44) #[] #[], .func (.func 45) #[] #[], .func (.func 46) #[] #[], .func (.func 47) #[] #[], .func (.func 48) #[] #[], .func (.func 49) #[] #[], .func (.func 50) #[] #[], .func (.func 51) #[] #[], .func (.func 52) #[] #[]] 60); have K7 := Aside0.mk (Kd.R_below K6.out hb67); have R7 := Aside0.mk (Kd.R_below R6.out hb67); have B7 := Aside0.mk (below_step B6.out hb67); clear hb67 K6 R6 B6)
    | (go_at_call 51; obtain ⟨A9, c9, e9, hc9, hC9⟩ := Kd.R_reads K7.out; injection e9 with e91 e92 e93; subst e91 e93; (with_reducible refine (HP.out _ _ _ hC9 hc9).mono ?_); rintro e w8 ⟨vp, e0, rfl, hRp, hb8⟩; obtain ⟨Ap, cp, rfl, hcp, hCp⟩ := Kd.R_reads hRp; have CP := Aside0.mk hCp; have R8 := Aside0.mk (Kd.R_below R7.out hb8); have B8 := Aside0.mk (below_step B7.out hb8); clear hRp hCp hb8 hC9 K7 R7 B7)
    | (at_builtin; refine Kd.R_append_row (w0 := w) (Value.int .u8) (0 : Int) (h1 := fun _ => rfl) w.heap.size rfl (.tmp 46) (.tmp 47) 25 5 (.int .u8 0) 1 rfl Tryz.underlying25 Bits.info5 rfl (by decide) _ (([1] ++ pack (marksOf l)) ++ [4]) P Ap P.length cp (fun _ => True) rfl rfl (fun _ _ => trivial) R8.out CP.out B8.out B8.out.size (by simp <;> omega) ?_; intro v9 w9 hR9 hB9 hg9 _))
  go_ret
  exact ⟨_, rfl, hR9, hB9⟩
set_option maxRecDepth 100000 in
set_option maxHeartbeats 8000000 in
theorem lay5_no (w : World) (A : Option Addr) (c : Nat) (l : List S40) (hr : Kd.C k40 w A l.length l) (hl : l.length ≤ 65536) (P : List Int) (hP : PutsTo Kd.string 30 (wordsOf l) P) (hPl : P.length ≤ 1099511627776) (hn : someNull l = false) :
    Calls Tryz.prog 17 #[.slice A l.length c, .int .i64 5] w fun e w' => ∃ v, e = .returned v ∧ BytesR w' w.heap.size v (frontOf l ++ [5] ++ P) ∧ Below w.heap.size w w' := by
  have hPa := Aside0.mk (parts_ok w A c l hr hl)
  have hc0 : ¬ (0 < cnt (marksOf l) (marksOf l).length) := by rw [cnt_some, hn]; simp
  have hc1 : cnt (marksOf l) (marksOf l).length = 0 := by omega
  have hfr : frontOf l = [0] := by unfold frontOf; rw [hn]; rfl
  have HP := Aside0.mk hP
  have hfl := front_len l
  rw [hfr] at hfl ⊢
  clear hr hP hfr
  go_enter Tryz.func17, Tryz.ntmps17
  go_wp2_with (first
    | (go_at_call 28; (with_reducible refine hPa.out.mono ?_); rintro e w1 ⟨g, b, vi, vw, rfl, hS, hI, hW, hB⟩; obtain ⟨Ai, ci, rfl, hci, _⟩ := Kd.R_reads hI; obtain ⟨Aw, cw, rfl, hcw, _⟩ := Kd.R_reads hW; have S1 := Aside0.mk hS; have I1 := Aside0.mk hI; have W1 := Aside0.mk hW; have B1 := Aside0.mk hB; clear hS hI hW hB hPa)
    | (go_at_call 20; (with_reducible refine (Count_any _ _ _ _ (IsSet.below S1.out (below_alloc (Below.refl _ _) _))).mono ?_); rintro e w3 ⟨he, hd⟩; rw [hc1] at he; subst he; have hb13 := below_step (below_alloc (Below.refl w1.heap.size w1) (.cells #[.int .u8 0] 5)) hd.below; have R3 := Aside0.mk (Kd.R_lower (Kd.R_below (lit_R w1 0) hd.below) B1.out.size); have K3 := Aside0.mk (Kd.R_below W1.out hb13); have S3 := Aside0.mk (IsSet.below S1.out hb13); have B3 := Aside0.mk (below_step B1.out hb13); clear hd hb13 S1 I1 W1)
    | (at_builtin; refine Kd.R_append (Kd.int .u8) (w0 := w) w.heap.size rfl (.tmp 24) (.tmp 27) 25 5 (.int .u8 0) 1 rfl Tryz.underlying25 Bits.info5 rfl (by decide) (by decide) _ [0] 5 [.int .u8 5] (fun _ => True) (fun _ => False) rfl rfl rfl (fun _ h => h.elim) (fun _ _ => trivial) R3.out B3.out B3.out.size (by simp <;> omega) ?_; intro v6 w6 hR6 hB6 hg6 _; have R6 := Aside0.mk hR6; have K6 := Aside0.mk (growR K3.out R3.out (by simp [Kd.int, Kd.string, Kd.scalar]) hg6); have B6 := Aside0.mk hB6; clear hR6 hB6 hg6 R3 K3 B3)
    | (go_at_call 30; obtain ⟨A9, c9, e9, hc9, hC9⟩ := Kd.R_reads K6.out; injection e9 with e91 e92 e93; subst e91 e93; (with_reducible refine (HP.out _ _ _ hC9 hc9).mono ?_); rintro e w8 ⟨vp, e0, rfl, hRp, hb8⟩; obtain ⟨Ap, cp, rfl, hcp, hCp⟩ := Kd.R_reads hRp; have CP := Aside0.mk hCp; have R8 := Aside0.mk (Kd.R_below R6.out hb8); have B8 := Aside0.mk (below_step B6.out hb8); clear hRp hCp hb8 hC9 K6 R6 B6)
    | (at_builtin; refine Kd.R_append_row (w0 := w) (Value.int .u8) (0 : Int) (h1 := fun _ => rfl) w.heap.size rfl (.tmp 46) (.tmp 47) 25 5 (.int .u8 0) 1 rfl Tryz.underlying25 Bits.info5 rfl (by decide) _ ([0] ++ [5]) P Ap P.length cp (fun _ => True) rfl rfl (fun _ _ => trivial) R8.out CP.out B8.out B8.out.size (by simp <;> omega) ?_; intro v9 w9 hR9 hB9 hg9 _))
  go_ret
  exact ⟨_, rfl, hR9, hB9⟩
set_option maxRecDepth 100000 in
set_option maxHeartbeats 8000000 in
theorem lay5_yes (w : World) (A : Option Addr) (c : Nat) (l : List S40) (hr : Kd.C k40 w A l.length l) (hl : l.length ≤ 65536) (P : List Int) (hP : PutsTo Kd.string 30 (wordsOf l) P) (hPl : P.length ≤ 1099511627776) (hn : someNull l = true) :
    Calls Tryz.prog 17 #[.slice A l.length c, .int .i64 5] w fun e w' => ∃ v, e = .returned v ∧ BytesR w' w.heap.size v (frontOf l ++ [5] ++ P) ∧ Below w.heap.size w w' := by
  have hPa := Aside0.mk (parts_ok w A c l hr hl)
  have hc0 : 0 < cnt (marksOf l) (marksOf l).length := by rw [cnt_some, hn]
  have hfr : frontOf l = 1 :: pack (marksOf l) := by unfold frontOf; rw [hn]; rfl
  have hmk : (marksOf l).length ≤ 65536 := by simp [marksOf]; omega
  have hpk : (pack (marksOf l)).length ≤ 8193 := by rw [pack_len]; simp [marksOf]; omega
  have HP := Aside0.mk hP
  have hfl := front_len l
  rw [hfr] at hfl ⊢
  clear hr hP hfr
  go_enter Tryz.func17, Tryz.ntmps17
  go_wp2_with (first
    | (go_at_call 28; (with_reducible refine hPa.out.mono ?_); rintro e w1 ⟨g, b, vi, vw, rfl, hS, hI, hW, hB⟩; obtain ⟨Ai, ci, rfl, hci, _⟩ := Kd.R_reads hI; obtain ⟨Aw, cw, rfl, hcw, _⟩ := Kd.R_reads hW; have S1 := Aside0.mk hS; have I1 := Aside0.mk hI; have W1 := Aside0.mk hW; have B1 := Aside0.mk hB; clear hS hI hW hB hPa)
    | (go_at_call 20; (with_reducible refine (Count_any _ _ _ _ (IsSet.below S1.out (below_alloc (Below.refl _ _) _))).mono ?_); rintro e w3 ⟨he, hd⟩; subst he; have hb13 := below_step (below_alloc (Below.refl w1.heap.size w1) (.cells #[.int .u8 0] 5)) hd.below; have R3 := Aside0.mk (Kd.R_lower (Kd.R_below (lit_R w1 0) hd.below) B1.out.size); have K3 := Aside0.mk (Kd.R_below W1.out hb13); have S3 := Aside0.mk (IsSet.below S1.out hb13); have B3 := Aside0.mk (below_step B1.out hb13); clear hd hb13 S1 I1 W1)
    | (go_at_call 29; (with_reducible refine (Bytes_any _ _ _ _ (IsSet.below S3.out (below_alloc (Below.refl _ _) _))).mono ?_); rintro e w4 ⟨cb, rfl, hbc, hle, hb4⟩; have hb34 := below_step (below_alloc (Below.refl w3.heap.size w3) (.cells #[.int .u8 1] 5)) hb4; have R4 := Aside0.mk (Kd.R_lower (Kd.R_below (lit_R w3 1) hb4) B3.out.size); have C4 := Aside0.mk (blk_C hbc (by omega)); have K4 := Aside0.mk (Kd.R_below K3.out hb34); have B4 := Aside0.mk (below_step B3.out hb34); clear hbc hb4 hb34 R3 K3 S3 B3)
    | (at_builtin; refine Kd.R_append_row (w0 := w) (Value.int .u8) (0 : Int) (h1 := fun _ => rfl) w.heap.size rfl (.tmp 20) (.tmp 22) 25 5 (.int .u8 0) 1 rfl Tryz.underlying25 Bits.info5 rfl (by decide) _ [1] (pack (marksOf l)) (some ⟨cb, 0, none⟩) (((marksOf l).length + 7) / 8) (((marksOf l).length + 7) / 8) (fun _ => True) rfl rfl (fun _ _ => trivial) R4.out (by rw [← pack_len]; exact C4.out) B4.out B4.out.size (by simp <;> omega) ?_; intro v5 w5 hR5 hB5 hg5 _; have R3 := Aside0.mk hR5; have K3 := Aside0.mk (growR K4.out R4.out (by simp [Kd.int, Kd.string, Kd.scalar]) hg5); have B3 := Aside0.mk hB5; clear hR5 hB5 hg5 R4 K4 B4 C4)
    | (at_builtin; refine Kd.R_append (Kd.int .u8) (w0 := w) w.heap.size rfl (.tmp 24) (.tmp 27) 25 5 (.int .u8 0) 1 rfl Tryz.underlying25 Bits.info5 rfl (by decide) (by decide) _ ([1] ++ pack (marksOf l)) 5 [.int .u8 5] (fun _ => True) (fun _ => False) rfl rfl rfl (fun _ h => h.elim) (fun _ _ => trivial) R3.out B3.out B3.out.size (by simp <;> omega) ?_; intro v6 w6 hR6 hB6 hg6 _; have R6 := Aside0.mk hR6; have K6 := Aside0.mk (growR K3.out R3.out (by simp [Kd.int, Kd.string, Kd.scalar]) hg6); have B6 := Aside0.mk hB6; clear hR6 hB6 hg6 R3 K3 B3)
    | (go_at_call 30; obtain ⟨A9, c9, e9, hc9, hC9⟩ := Kd.R_reads K6.out; injection e9 with e91 e92 e93; subst e91 e93; (with_reducible refine (HP.out _ _ _ hC9 hc9).mono ?_); rintro e w8 ⟨vp, e0, rfl, hRp, hb8⟩; obtain ⟨Ap, cp, rfl, hcp, hCp⟩ := Kd.R_reads hRp; have CP := Aside0.mk hCp; have R8 := Aside0.mk (Kd.R_below R6.out hb8); have B8 := Aside0.mk (below_step B6.out hb8); clear hRp hCp hb8 hC9 K6 R6 B6)
    | (at_builtin; refine Kd.R_append_row (w0 := w) (Value.int .u8) (0 : Int) (h1 := fun _ => rfl) w.heap.size rfl (.tmp 46) (.tmp 47) 25 5 (.int .u8 0) 1 rfl Tryz.underlying25 Bits.info5 rfl (by decide) _ (([1] ++ pack (marksOf l)) ++ [5]) P Ap P.length cp (fun _ => True) rfl rfl (fun _ _ => trivial) R8.out CP.out B8.out B8.out.size (by simp <;> omega) ?_; intro v9 w9 hR9 hB9 hg9 _))
  go_ret
  exact ⟨_, rfl, hR9, hB9⟩
end Go.Proofs.YtehbkhddbdgbcaaGreatDoor.Ch
