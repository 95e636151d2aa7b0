/- chunk.Get behind its front: what the ways' readers hand on, errors too. -/
import Derived.Test.YtehbkhddbdgbcaaGreatDoorChFront
import Derived.Test.YtehbkhddbdgbcaaGreatDoorChOut
import Derived.Test.YtehbkhddbdgbcaaGreatDoorChLay
import Derived.Deep.DeepCutAuto
namespace Go.Proofs.YtehbkhddbdgbcaaGreatDoor.Ch
open Go.RowKit Go.Proofs.YtehbkhddbdgbcaaGreatDoorW.PrintWords Go.Proofs.YtehbkhddbdgbcaaGreatDoorW.PrintLast Go.Proofs.YtehbkhddbdgbcaaGreatDoorW.PrintMore Go.Proofs.YtehbkhddbdgbcaaGreatDoor.PChunkBack Go.Proofs.YtehbkhddbdgbcaaGreatDoor.Bits
attribute [local go_sem] max2_int min2_int max_two min_two max_three min_three max_four min_four
set_option linter.unusedVariables false
set_option linter.unusedSimpArgs false
/-- What a function that gets a row of what was put comes to. -/
abbrev GetsTo {α : Type} (d : Kd α) (e n : Nat) (rest : List Int) (m : Int) (xs : List α) (er : Int) : Prop :=
  ∀ (W : World) (A : Option Addr) (c : Nat), (Kd.int .u8).C W A rest.length rest → rest.length ≤ c → HG W → Calls Tryz.prog n #[.slice A rest.length c, .int .i64 m] W fun e' w' => ∃ v, e' = .returned (.tuple #[v, .int .i64 er]) ∧ d.R e w' W.heap.size (fun _ => True) v xs ∧ Below W.heap.size W w'
/-- What the front's call comes to, said once for both ways. -/
def FrontTo (b : List Int) (x : List Bool) (y : Int) (at_ : Nat) : Prop := ∀ (w0 w : World) (g : Nat), IsS73 w0 w g b 0 0 0 → Below w0.heap.size w0 w →
  Calls Tryz.prog 19 #[.pointer (some ⟨g, 0, none⟩), .int .i64 x.length] w fun e w' => ∃ gs bs, e = .returned (.tuple #[.pointer (some ⟨gs, 0, none⟩), .int .i64 y, .int .i64 0]) ∧ IsSet w' gs bs x ∧ IsS73 w0 w' g b at_ 0 0 ∧ Below w0.heap.size w0 w'
theorem set_ne {w0 W : World} {gs bs g : Nat} {x : List Bool} {b : List Int} {f1 f2 f3 : Int} (h : IsSet W gs bs x) (hI : IsS73 w0 W g b f1 f2 f3) : gs ≠ g ∧ bs ≠ g := by
  obtain ⟨A, c, ev, hb, _⟩ := hI
  refine ⟨?_, ?_⟩
  · rintro rfl; have := h.head.symm.trans hb; injection this with e; injection e with _ e2; exact absurd e2 (by decide)
  · rintro rfl; have := h.row.symm.trans hb; injection this with e; injection e with _ e2; exact absurd e2 (by decide)
/-- As many values there are ahead of a place as words are used up. -/
theorem free_step (x : List Bool) (i : Nat) : ∀ d, cnt x (i + d) ≤ cnt x i + d := by
  intro d
  induction d with
  | zero => exact Nat.le_refl _
  | succ d ih =>
    have h := cnt_succ x (i + d)
    rw [show i + (d + 1) = (i + d) + 1 from rfl]
    cases hb : x.getD (i + d) false <;> rw [hb] at h <;> simp only [Bool.toInt_true, Bool.toInt_false] at h <;> omega
theorem free_lt (x : List Bool) {m i : Nat} (hm : m + cnt x x.length = x.length) (hi : i < x.length) (h : x.getD i false = false) : i - cnt x i < m := by
  have h1 := free_step x (i + 1) (x.length - (i + 1))
  rw [show i + 1 + (x.length - (i + 1)) = x.length by omega] at h1
  have h2 := cnt_succ x i
  rw [h] at h2
  simp only [Bool.toInt_false] at h2
  have h3 := cnt_le x i
  omega
theorem rdW (ws : List ByteArray) {x : List Bool} {i : Nat} (h : cnt x i ≤ i) : rdOf ByteArray.empty ws ((i : Int) - cnt x i) = ws.getD (i - cnt x i) ⟨#[]⟩ := by
  unfold rdOf; rw [show ((i : Int) - cnt x i).toNat = i - cnt x i by omega]; rfl
theorem rdI (ws : List Int) {x : List Bool} {i : Nat} (h : cnt x i ≤ i) : rd ws ((i : Int) - cnt x i) = ws.getD (i - cnt x i) 0 := by
  unfold rd; rw [show ((i : Int) - cnt x i).toNat = i - cnt x i by omega]
def IsForms (W : World) (fb : Nat) : Prop := W.heap[fb]? = some (.cells #[.func (.func 43) #[] #[], .func (.func 44) #[] #[], .func (.func 45) #[] #[], .func (.func 46) #[] #[], .func (.func 47) #[] #[], .func (.func 48) #[] #[], .func (.func 49) #[] #[], .func (.func 50) #[] #[], .func (.func 51) #[] #[], .func (.func 52) #[] #[]] 60 (0, 0))
theorem forms_at (W : World) : Calls Tryz.prog 24 #[] W fun e w' => ∃ fb, e = .returned (.slice (some ⟨fb, 0, none⟩) 5 5) ∧ IsForms w' fb ∧ W.heap.size ≤ fb ∧ Below W.heap.size W w' := by
  refine (forms_ok W).mono ?_
  rintro e w' ⟨rfl, rfl⟩
  exact ⟨_, rfl, heap_alloc_new _ _, Nat.le_refl _, below_alloc (Below.refl _ _) _⟩
theorem IsForms.keep {W W' : World} {fb g : Nat} (h : IsForms W fb) (hk : KeepBut W W' g none) (h1 : fb ≠ g) : IsForms W' fb := (hk.2 fb (blk_lt h) h1 (by simp)).trans h
def getNo (way : Int) : Nat := 44 + 2 * way.toNat
theorem of_int {way : Int} (h : 0 ≤ way ∧ way ≤ 4) : chunk_of.f way 1 = some true := by
  unfold chunk_of.f
  rw [if_neg (by omega), if_pos (by omega)]
  simp [h.2]
theorem ways {way : Int} (h : 0 ≤ way ∧ way ≤ 4) : way = 0 ∨ way = 1 ∨ way = 2 ∨ way = 3 ∨ way = 4 := by omega
theorem forms_cells {W : World} {fb : Nat} (h : IsForms W fb) : W.cell? ⟨fb, 1, none⟩ = some (.func (.func 44) #[] #[]) ∧ W.cell? ⟨fb, 3, none⟩ = some (.func (.func 46) #[] #[]) ∧ W.cell? ⟨fb, 5, none⟩ = some (.func (.func 48) #[] #[]) ∧ W.cell? ⟨fb, 7, none⟩ = some (.func (.func 50) #[] #[]) ∧ W.cell? ⟨fb, 9, none⟩ = some (.func (.func 52) #[] #[]) := by
  refine ⟨?_, ?_, ?_, ?_, ?_⟩ <;> (rw [blk_cell h]; rfl)
set_option maxRecDepth 100000 in
set_option maxHeartbeats 8000000 in
theorem get_texts (w : World) (A : Option Addr) (c : Nat) (b rest : List Int) (x : List Bool) (ws : List ByteArray) (at_ : Nat) (hr : Kd.C (Kd.int .u8) w A b.length b) (hc : b.length ≤ c) (hG : HG w) (hF : FrontTo b x 5 at_) (hx : x.length ≤ 65536) (hb : b.length ≤ 1000000000) (hd : b.drop at_ = rest) (ha : at_ ≤ b.length)
    (er : Int) (hT : GetsTo Kd.string 9 21 rest ((x.length : Int) - cnt x x.length) ws er) (hw0 : er = 0 → ws.length + cnt x x.length = x.length) :
    Calls Tryz.prog 10 #[.slice A b.length c, .int .i64 2, .int .i64 x.length] w fun e w' => ∃ v0_ : Value, e = .returned (.tuple #[v0_, .int .i64 er]) ∧ Kd.R k40 40 w' w.heap.size (fun _ => True) v0_ (if er = 0 then outW x ws x.length else []) ∧ Below w.heap.size w w' := by
  obtain ⟨rl, hrl⟩ : ∃ rl, (if er = 0 then outW x ws x.length else []) = rl := ⟨_, rfl⟩
  rw [hrl]
  have HRL := Aside0.mk hrl
  clear hrl
  have f0 : num_NewReader.f b = some (b, 0, 0, 0) := by unfold num_NewReader.f; rw [if_pos (by omega)]
  have hN := Aside0.mk (fun q => num_NewReader.calls A c b _ _ _ _ w (w.drewN q) (pw_below_drewN (Below.refl _ _) q) (Kd.C_drewN hr q) hc hG f0)
  have d0 : decide ((x.length : Int) < 0) = false := decide_eq_false (by omega)
  have d1 : decide (65536 < (x.length : Int)) = false := decide_eq_false (by omega)
  have hk := Aside0.mk (chunk_isKind.calls 2 true w (by decide))
  have HF := Aside0.mk hF
  have hle := cnt_le x x.length
  have hW : wrap64 ((b.length : Int) - at_) = ((b.length - at_ : Nat) : Int) := by rw [w64 (by omega) (by omega)]; omega
  have HW := Aside0.mk hW
  have hT2 := take_at b at_ (b.length - at_) (by omega) (by omega)
  rw [hd, List.take_of_length_le (by rw [← hd, List.length_drop]; exact Nat.le_refl _)] at hT2
  have HT := Aside0.mk hT2
  have HTT := Aside0.mk hT
  clear hr hF f0 hW hT2 hT
  go_enter Tryz.func10, Tryz.ntmps10
  go_upto_region 15 with (first
    | (go_at_call 14; (with_reducible refine hk.out.mono ?_); rintro e w1 ⟨rfl, q, rfl⟩)
    | (go_at_call 18; (with_reducible refine (hN.out q).mono ?_); rintro e w2 ⟨g, rfl, hI, hB, _⟩; have I2 := Aside0.mk hI; have B2 := Aside0.mk hB; clear hI hB)
    | (go_at_call 19; have hf3 := HF.out _ _ _ I2.out B2.out; (with_reducible refine hf3.mono ?_); clear hf3; rintro e w3 ⟨gs, bs, rfl, hS, hI, hB⟩; have S3 := Aside0.mk hS; have I3 := Aside0.mk hI; have B3 := Aside0.mk hB; clear hS hI hB I2 B2)
    | (go_at_call 15; (with_reducible refine (chunk_of.calls 5 2 true _ (by decide)).mono ?_); rintro e w4 ⟨rfl, q4, rfl⟩)
    | (go_at_call 20; (with_reducible refine (Count_any _ _ _ _ (IsSet.below S3.out (pw_below_drewN (Below.refl _ _) q4))).mono ?_); rintro e w5 ⟨rfl, hd⟩; have h35 := (pw_below_drewN (Below.refl w3.heap.size w3) q4).trans (hd.below.mono (by simp)); have S5 := Aside0.mk (IsSet.below S3.out h35); have I5 := Aside0.mk (I3.out.below h35); have B5 := Aside0.mk (below_step B3.out h35); clear hd h35 S3 I3 B3)
    | (go_at_call 23; (with_reducible refine (num_Reader_Left.calls g b at_ 0 0 _ _ _ _ w _ I5.out B5.out rfl).mono ?_); rintro e w6 ⟨rfl, hI6, hB6, hK6⟩; have ne := set_ne S5.out I5.out; have S6 := Aside0.mk (IsSet.keepR S5.out hK6 ne.1 ne.2); have I6 := Aside0.mk hI6; have B6 := Aside0.mk hB6; clear hI6 hB6 hK6 S5 I5 B5; rw [HW.out])
    | (go_at_call 22; (with_reducible refine (num_Reader_Take.calls g b at_ 0 0 _ _ _ _ _ w _ I6.out B6.out HT.out).mono ?_); rintro e w7 ⟨v, rfl, hR7, hI7, hB7, hK7⟩; obtain ⟨A7, c7, rfl⟩ := Kd.R_slice hR7; have C7 := Aside0.mk (Kd.R_reads' hR7).2.2; have L7 := Aside0.mk (Kd.R_reads' hR7).2.1; have S7 := Aside0.mk (IsSet.keepR S6.out hK7 ne.1 ne.2); have B7 := Aside0.mk hB7; have G7 := Aside0.mk (hG.heap (fun k hk => B7.out.block k hk)); clear hR7 hI7 hB7 hK7 S6 I6 B6)
    | (go_at_call 21; (with_reducible refine (HTT.out _ A7 c7 C7.out L7.out G7.out).mono ?_); rintro e w8 ⟨v8, rfl, hR8, hB8⟩; obtain ⟨A8, c8, rfl⟩ := Kd.R_slice hR8; have R8 := Aside0.mk hR8; have S8 := Aside0.mk (IsSet.below S7.out hB8); have B8 := Aside0.mk (below_step B7.out hB8); clear hR8 hB8 C7 L7 S7 B7 G7))
  clear hN hk HF HT HW HTT
  generalize hbase8 : w7.heap.size = base8 at *
  clear hbase8
  by_cases hz : er = 0
  · subst hz
    have hrl2 := HRL.out.symm.trans (if_pos rfl)
    subst hrl2
    have hw := hw0 rfl
    clear HRL hw0
    go_wp2
    go_loopw [15, 80] (fun vo iv wr => ∃ i : Nat, i ≤ x.length ∧ iv = .int .i64 i ∧ Aside0 (IsSet wr gs bs x) ∧ Aside0 (Kd.R Kd.string 9 wr base8 (fun _ => True) (.slice A8 ws.length c8) ws) ∧ Aside0 (Kd.R k40 40 wr w.heap.size (fun _ => True) vo (outW x ws i)) ∧ Aside0 (Below w.heap.size w wr)) (fun _ iv _ => x.length - (intOf iv).toNat)
    case atStart => exact ⟨0, Nat.zero_le _, rfl, S8, R8, ⟨Kd.R_nil _ _ _ _ _⟩, B8⟩
    case round =>
      obtain ⟨i, hi, rfl, hS, hW2, hO, hB⟩ := hrel
      by_cases hlt : i < x.length
      · have hcl : clamp x i = i := by unfold clamp; omega
        have hhas : has x i = x.getD i false := by unfold has; rw [decide_eq_true ⟨by omega, by omega⟩]; rfl
        have hol : (outW x ws i).length = i := by simp [outW]
        have hci := cnt_le x i
        have hR := Aside0.mk (Rank_any wr gs bs x i hS.out)
        cases hxi : x.getD i false
        · rw [hxi] at hhas
          have hfree := free_lt x hw hlt hxi
          obtain ⟨y, hyv⟩ : ∃ y, ws.getD (i - cnt x i) ⟨#[]⟩ = y := ⟨_, rfl⟩
          have HY := Aside0.mk hyv
          clear hyv
          go_wp2_with (first
            | (go_at_call 25; (with_reducible refine hR.out.mono ?_); rintro e w9 ⟨rfl, hd⟩; rw [hcl]; have S9 := Aside0.mk (IsSet.below hS.out hd.below); have W9 := Aside0.mk (Kd.R_below hW2.out hd.below); have O9 := Aside0.mk (Kd.R_below hO.out hd.below); have B9 := Aside0.mk (below_step hB.out hd.below); clear hd hR; obtain ⟨ad, e8, q0⟩ := Kd.at_string (Kd.R_reads' W9.out).2.2 ((i : Int) - cnt x i) (by omega) (by omega); subst e8; rw [show ((i : Int) - cnt x i).toNat = i - cnt x i from by omega, rdW ws hci, HY.out] at q0)
            | (go_at_call 26; (with_reducible refine (Has_any _ _ _ _ _ S9.out).mono ?_); rintro e w10 ⟨rfl, rfl⟩; rw [hhas])
            | ((with_reducible refine gate_builtin (b := .append) (xs := #[.tmp 88, .tmp 94]) rfl ?_); at_builtin; refine Kd.R_append k40 (w0 := w) w.heap.size rfl (.tmp 88) (.tmp 94) 22 40 (.agg #[(.int .i64 0), (.int .i64 0), (.string ⟨#[]⟩)]) 32 rfl Tryz.underlying22 info40 rfl (by decide) (by decide) _ (outW x ws i) ⟨2, 0, y⟩ [.int .i64 2, .int .i64 0, .string y] (fun _ => True) (fun _ => False) rfl rfl (k40_mkM _ _ _ _) (fun _ h => h.elim) (fun _ _ => trivial) O9.out B9.out B9.out.size (by omega) ?_; intro v3 w3 hR3 hB3 hg3 _))
          have hv : valW x ws i = ⟨2, 0, y⟩ := by unfold valW; rw [hxi, if_neg (by decide), HY.out]
          refine ⟨⟨i + 1, by omega, rfl, ⟨growS S9.out O9.out (by decide) (by decide) hg3⟩, ⟨growR W9.out O9.out (by simp [Kd.string, Kd.scalar]) hg3⟩, ⟨by rw [outW_succ, hv]; exact hR3⟩, ⟨hB3⟩⟩, by simp [intOf]; omega⟩
        · rw [hxi] at hhas
          go_wp2_with (first
            | (go_at_call 25; (with_reducible refine hR.out.mono ?_); rintro e w9 ⟨rfl, hd⟩; rw [hcl]; have S9 := Aside0.mk (IsSet.below hS.out hd.below); have W9 := Aside0.mk (Kd.R_below hW2.out hd.below); have O9 := Aside0.mk (Kd.R_below hO.out hd.below); have B9 := Aside0.mk (below_step hB.out hd.below); clear hd hR)
            | (go_at_call 26; (with_reducible refine (Has_any _ _ _ _ _ S9.out).mono ?_); rintro e w10 ⟨rfl, rfl⟩; rw [hhas])
            | ((with_reducible refine gate_builtin (b := .append) (xs := #[.tmp 100, .tmp 102]) rfl ?_); at_builtin; refine Kd.R_append k40 (w0 := w) w.heap.size rfl (.tmp 100) (.tmp 102) 22 40 (.agg #[(.int .i64 0), (.int .i64 0), (.string ⟨#[]⟩)]) 32 rfl Tryz.underlying22 info40 rfl (by decide) (by decide) _ (outW x ws i) z40 [.int .i64 0, .int .i64 0, .string ⟨#[]⟩] (fun _ => True) (fun _ => False) rfl rfl (k40_mkM _ _ _ _) (fun _ h => h.elim) (fun _ _ => trivial) O9.out B9.out B9.out.size (by omega) ?_; intro v3 w3 hR3 hB3 hg3 _))
          have hv : valW x ws i = z40 := by unfold valW; rw [hxi, if_pos rfl]
          refine ⟨⟨i + 1, by omega, rfl, ⟨growS S9.out O9.out (by decide) (by decide) hg3⟩, ⟨growR W9.out O9.out (by simp [Kd.string, Kd.scalar]) hg3⟩, ⟨by rw [outW_succ, hv]; exact hR3⟩, ⟨hB3⟩⟩, by simp [intOf]; omega⟩
      · have hie : i = x.length := by omega
        subst hie
        go_wp2
        go_ret2
        exact ⟨_, rfl, hO.out, hB.out⟩
  · have hrl2 := HRL.out.symm.trans (if_neg hz)
    subst hrl2
    have c8 : (er != 0) = true := bne_iff_ne.2 hz
    clear HRL hw0
    go_wp2
    go_ret2
    exact ⟨_, rfl, Kd.R_nil _ _ _ _ _, B8.out⟩
set_option maxRecDepth 100000 in
set_option maxHeartbeats 8000000 in
theorem get_ints (w : World) (A : Option Addr) (c : Nat) (b rest : List Int) (x : List Bool) (ws : List Int) (at_ : Nat) (way : Int) (hr : Kd.C (Kd.int .u8) w A b.length b) (hc : b.length ≤ c) (hG : HG w) (hF : FrontTo b x way at_) (hx : x.length ≤ 65536) (hb : b.length ≤ 1000000000) (hd : b.drop at_ = rest) (ha : at_ ≤ b.length)
    (er : Int) (hy : 0 ≤ way ∧ way ≤ 4) (hT : GetsTo (Kd.int .i64) 2 (getNo way) rest ((x.length : Int) - cnt x x.length) ws er) (hw0 : er = 0 → ws.length + cnt x x.length = x.length) :
    Calls Tryz.prog 10 #[.slice A b.length c, .int .i64 1, .int .i64 x.length] w fun e w' => ∃ v0_ : Value, e = .returned (.tuple #[v0_, .int .i64 er]) ∧ Kd.R k40 40 w' w.heap.size (fun _ => True) v0_ (if er = 0 then outI x ws x.length else []) ∧ Below w.heap.size w w' := by
  have hof : chunk_of.f way 1 = some true := of_int hy
  have HOF := Aside0.mk hof
  clear hof
  have hne : ¬ way = 5 := by omega
  have hne2 : (way == 5) = false := beq_eq_false_iff_ne.2 hne
  obtain ⟨rl, hrl⟩ : ∃ rl, (if er = 0 then outI x ws x.length else []) = rl := ⟨_, rfl⟩
  rw [hrl]
  have HRL := Aside0.mk hrl
  clear hrl
  have f0 : num_NewReader.f b = some (b, 0, 0, 0) := by unfold num_NewReader.f; rw [if_pos (by omega)]
  have hN := Aside0.mk (fun q => num_NewReader.calls A c b _ _ _ _ w (w.drewN q) (pw_below_drewN (Below.refl _ _) q) (Kd.C_drewN hr q) hc hG f0)
  have d0 : decide ((x.length : Int) < 0) = false := decide_eq_false (by omega)
  have d1 : decide (65536 < (x.length : Int)) = false := decide_eq_false (by omega)
  have hk := Aside0.mk (chunk_isKind.calls 1 true w (by decide))
  have HF := Aside0.mk hF
  have hle := cnt_le x x.length
  have hW : wrap64 ((b.length : Int) - at_) = ((b.length - at_ : Nat) : Int) := by rw [w64 (by omega) (by omega)]; omega
  have HW := Aside0.mk hW
  have hT2 := take_at b at_ (b.length - at_) (by omega) (by omega)
  rw [hd, List.take_of_length_le (by rw [← hd, List.length_drop]; exact Nat.le_refl _)] at hT2
  have HT := Aside0.mk hT2
  have HTT := Aside0.mk hT
  clear hr hF f0 hW hT2 hT
  go_enter Tryz.func10, Tryz.ntmps10
  go_upto_region 14 with (first
    | (go_at_call 14; (with_reducible refine hk.out.mono ?_); rintro e w1 ⟨rfl, q, rfl⟩)
    | (go_at_call 18; (with_reducible refine (hN.out q).mono ?_); rintro e w2 ⟨g, rfl, hI, hB, _⟩; have I2 := Aside0.mk hI; have B2 := Aside0.mk hB; clear hI hB)
    | (go_at_call 19; have hf3 := HF.out _ _ _ I2.out B2.out; (with_reducible refine hf3.mono ?_); clear hf3; rintro e w3 ⟨gs, bs, rfl, hS, hI, hB⟩; have S3 := Aside0.mk hS; have I3 := Aside0.mk hI; have B3 := Aside0.mk hB; clear hS hI hB I2 B2)
    | (go_at_call 15; (with_reducible refine (chunk_of.calls way 1 true _ HOF.out).mono ?_); rintro e w4 ⟨rfl, q4, rfl⟩)
    | (go_at_call 20; (with_reducible refine (Count_any _ _ _ _ (IsSet.below S3.out (pw_below_drewN (Below.refl _ _) q4))).mono ?_); rintro e w5 ⟨rfl, hd⟩; have h35 := (pw_below_drewN (Below.refl w3.heap.size w3) q4).trans (hd.below.mono (by simp)); have S5 := Aside0.mk (IsSet.below S3.out h35); have I5 := Aside0.mk (I3.out.below h35); have B5 := Aside0.mk (below_step B3.out h35); clear hd h35 S3 I3 B3))
  go_cut [13, 11] (fun v13 v11 wx => v11 = .int .i64 er ∧ ∃ A8 c8 base8, v13 = .slice A8 ws.length c8 ∧ Aside0 (Kd.R (Kd.int .i64) 2 wx base8 (fun _ => True) (.slice A8 ws.length c8) ws) ∧ Aside0 (IsSet wx gs bs x) ∧ Aside0 (Below w.heap.size w wx))
  case first =>
    clear hN hk HF HOF
    have ne := set_ne S5.out I5.out
    have hg5 := I5.out.lt
    have hs5 : w5.drew.heap.size = w5.heap.size := rfl
    rcases ways hy with rfl | rfl | rfl | rfl | rfl
    all_goals
      first
        | have H8 : Aside0 (GetsTo (Kd.int .i64) 2 44 rest ((x.length : Int) - cnt x x.length) ws er) := HTT
        | have H8 : Aside0 (GetsTo (Kd.int .i64) 2 46 rest ((x.length : Int) - cnt x x.length) ws er) := HTT
        | have H8 : Aside0 (GetsTo (Kd.int .i64) 2 48 rest ((x.length : Int) - cnt x x.length) ws er) := HTT
        | have H8 : Aside0 (GetsTo (Kd.int .i64) 2 50 rest ((x.length : Int) - cnt x x.length) ws er) := HTT
        | have H8 : Aside0 (GetsTo (Kd.int .i64) 2 52 rest ((x.length : Int) - cnt x x.length) ws er) := HTT
      go_region_with (first
        | (go_at_call 24; (with_reducible refine (forms_at _).mono ?_); rintro e wf ⟨fb, rfl, hF, hge, hb⟩; have h5f : Below w5.heap.size w5 wf := below_step (below_drew1 (Below.refl _ w5)) hb; have F6 := Aside0.mk hF; have hu := forms_cells F6.out; obtain ⟨u1, u3, u5, u7, u9⟩ := hu; have hgf : fb ≠ g := (by omega); have S6 := Aside0.mk (IsSet.below S5.out h5f); have I6 := Aside0.mk (I5.out.below h5f); have hB6 : Below w.heap.size w wf := below_step B5.out h5f; clear hF hb h5f hge)
        | (go_at_call 23; (with_reducible refine (num_Reader_Left.calls g b at_ 0 0 _ _ _ _ w _ I6.out (by assumption) rfl).mono ?_); rintro e w6 ⟨rfl, hI7, hB7, hK7⟩; have S7 := Aside0.mk (IsSet.keepR S6.out hK7 ne.1 ne.2); have F7 := Aside0.mk (IsForms.keep F6.out hK7 hgf); have hu := forms_cells F7.out; obtain ⟨p1, p3, p5, p7, p9⟩ := hu; have I7 := Aside0.mk hI7; clear hI7 hK7; rw [HW.out])
        | (go_at_call 22; (with_reducible refine (num_Reader_Take.calls g b at_ 0 0 _ _ _ _ _ w _ I7.out (by assumption) HT.out).mono ?_); rintro e w7 ⟨v, rfl, hR8, hI8, hB8, hK8⟩; obtain ⟨A7, c7, rfl⟩ := Kd.R_slice hR8; have C8 := Aside0.mk (Kd.R_reads' hR8).2.2; have L8 := Aside0.mk (Kd.R_reads' hR8).2.1; have S8 := Aside0.mk (IsSet.keepR S7.out hK8 ne.1 ne.2); have F8 := Aside0.mk (IsForms.keep F7.out hK8 hgf); have hu := forms_cells F8.out; obtain ⟨q1, q3, q5, q7, q9⟩ := hu; have B8 := Aside0.mk hB8; have G8 := Aside0.mk (hG.heap (fun k hk => B8.out.block k hk)); clear hR8 hI8 hK8)
        | ((first | go_at_call 44 | go_at_call 46 | go_at_call 48 | go_at_call 50 | go_at_call 52); (with_reducible refine (H8.out _ A7 c7 C8.out L8.out G8.out).mono ?_); rintro e w8 ⟨v8, rfl, hR9, hb9⟩; obtain ⟨A9, c9, rfl⟩ := Kd.R_slice hR9; have R9 := Aside0.mk hR9; have S9 := Aside0.mk (IsSet.below S8.out hb9); have hB9 : Below w.heap.size w w8 := below_step B8.out hb9; have B9 := Aside0.mk hB9; clear hR9 hb9))
      all_goals
        go_wp2
        go_meet
        exact ⟨rfl, _, _, _, rfl, R9, S9, B9⟩
  case rest =>
    obtain ⟨rfl, A8, c8, base8, rfl, R8, S8, B8⟩ := hcut
    clear S5 I5 B5 HTT HW HT hN hk HF HOF
    by_cases hz : er = 0
    · subst hz
      have hrl2 := HRL.out.symm.trans (if_pos rfl)
      subst hrl2
      have hw := hw0 rfl
      clear HRL hw0
      go_wp2
      go_loopw [15, 80] (fun vo iv wr => ∃ i : Nat, i ≤ x.length ∧ iv = .int .i64 i ∧ Aside0 (IsSet wr gs bs x) ∧ Aside0 (Kd.R (Kd.int .i64) 2 wr base8 (fun _ => True) (.slice A8 ws.length c8) ws) ∧ Aside0 (Kd.R k40 40 wr w.heap.size (fun _ => True) vo (outI x ws i)) ∧ Aside0 (Below w.heap.size w wr)) (fun _ iv _ => x.length - (intOf iv).toNat)
      case atStart => exact ⟨0, Nat.zero_le _, rfl, S8, R8, ⟨Kd.R_nil _ _ _ _ _⟩, B8⟩
      case round =>
        obtain ⟨i, hi, rfl, hS, hW2, hO, hB⟩ := hrel
        by_cases hlt : i < x.length
        · have hcl : clamp x i = i := by unfold clamp; omega
          have hhas : has x i = x.getD i false := by unfold has; rw [decide_eq_true ⟨by omega, by omega⟩]; rfl
          have hol : (outI x ws i).length = i := by simp [outI]
          have hci := cnt_le x i
          have hR := Aside0.mk (Rank_any wr gs bs x i hS.out)
          cases hxi : x.getD i false
          · rw [hxi] at hhas
            have hfree := free_lt x hw hlt hxi
            obtain ⟨y, hyv⟩ : ∃ y, ws.getD (i - cnt x i) 0 = y := ⟨_, rfl⟩
            have HY := Aside0.mk hyv
            clear hyv
            go_wp2_with (first
              | (go_at_call 25; (with_reducible refine hR.out.mono ?_); rintro e w9 ⟨rfl, hd⟩; rw [hcl]; have S9 := Aside0.mk (IsSet.below hS.out hd.below); have W9 := Aside0.mk (Kd.R_below hW2.out hd.below); have O9 := Aside0.mk (Kd.R_below hO.out hd.below); have B9 := Aside0.mk (below_step hB.out hd.below); clear hd hR; obtain ⟨ad, e8, q0⟩ := Kd.at_int (Kd.R_reads' W9.out).2.2 ((i : Int) - cnt x i) (by omega) (by omega); subst e8; rw [show ((i : Int) - cnt x i).toNat = i - cnt x i from by omega, rdI ws hci, HY.out] at q0)
              | (go_at_call 26; (with_reducible refine (Has_any _ _ _ _ _ S9.out).mono ?_); rintro e w10 ⟨rfl, rfl⟩; rw [hhas])
              | ((with_reducible refine gate_builtin (b := .append) (xs := #[.tmp 107, .tmp 113]) rfl ?_); at_builtin; refine Kd.R_append k40 (w0 := w) w.heap.size rfl (.tmp 107) (.tmp 113) 22 40 (.agg #[(.int .i64 0), (.int .i64 0), (.string ⟨#[]⟩)]) 32 rfl Tryz.underlying22 info40 rfl (by decide) (by decide) _ (outI x ws i) ⟨1, y, ⟨#[]⟩⟩ [.int .i64 1, .int .i64 y, .string ⟨#[]⟩] (fun _ => True) (fun _ => False) rfl rfl (k40_mkM _ _ _ _) (fun _ h => h.elim) (fun _ _ => trivial) O9.out B9.out B9.out.size (by omega) ?_; intro v3 w3 hR3 hB3 hg3 _))
            have hv : valI x ws i = ⟨1, y, ⟨#[]⟩⟩ := by unfold valI; rw [hxi, if_neg (by decide), HY.out]
            refine ⟨⟨i + 1, by omega, rfl, ⟨growS S9.out O9.out (by decide) (by decide) hg3⟩, ⟨growR W9.out O9.out (by simp [Kd.int, Kd.scalar]) hg3⟩, ⟨by rw [outI_succ, hv]; exact hR3⟩, ⟨hB3⟩⟩, by simp [intOf]; omega⟩
          · rw [hxi] at hhas
            go_wp2_with (first
              | (go_at_call 25; (with_reducible refine hR.out.mono ?_); rintro e w9 ⟨rfl, hd⟩; rw [hcl]; have S9 := Aside0.mk (IsSet.below hS.out hd.below); have W9 := Aside0.mk (Kd.R_below hW2.out hd.below); have O9 := Aside0.mk (Kd.R_below hO.out hd.below); have B9 := Aside0.mk (below_step hB.out hd.below); clear hd hR)
              | (go_at_call 26; (with_reducible refine (Has_any _ _ _ _ _ S9.out).mono ?_); rintro e w10 ⟨rfl, rfl⟩; rw [hhas])
              | ((with_reducible refine gate_builtin (b := .append) (xs := #[.tmp 100, .tmp 102]) rfl ?_); at_builtin; refine Kd.R_append k40 (w0 := w) w.heap.size rfl (.tmp 100) (.tmp 102) 22 40 (.agg #[(.int .i64 0), (.int .i64 0), (.string ⟨#[]⟩)]) 32 rfl Tryz.underlying22 info40 rfl (by decide) (by decide) _ (outI x ws i) z40 [.int .i64 0, .int .i64 0, .string ⟨#[]⟩] (fun _ => True) (fun _ => False) rfl rfl (k40_mkM _ _ _ _) (fun _ h => h.elim) (fun _ _ => trivial) O9.out B9.out B9.out.size (by omega) ?_; intro v3 w3 hR3 hB3 hg3 _))
            have hv : valI x ws i = z40 := by unfold valI; rw [hxi, if_pos rfl]
            refine ⟨⟨i + 1, by omega, rfl, ⟨growS S9.out O9.out (by decide) (by decide) hg3⟩, ⟨growR W9.out O9.out (by simp [Kd.int, Kd.scalar]) hg3⟩, ⟨by rw [outI_succ, hv]; exact hR3⟩, ⟨hB3⟩⟩, by simp [intOf]; omega⟩
        · have hie : i = x.length := by omega
          subst hie
          go_wp2
          go_ret2
          exact ⟨_, rfl, hO.out, hB.out⟩
    · have hrl2 := HRL.out.symm.trans (if_neg hz)
      subst hrl2
      have c8 : (er != 0) = true := bne_iff_ne.2 hz
      clear HRL hw0
      go_wp2
      go_ret2
      exact ⟨_, rfl, Kd.R_nil _ _ _ _ _, B8.out⟩
end Go.Proofs.YtehbkhddbdgbcaaGreatDoor.Ch
