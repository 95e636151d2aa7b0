/- WRITTEN BY A PROGRAM of this session (wip/tool: a turned copy of the printer), out of the translation: Lean functions with the answers of the Go functions, and the proofs that the Go code comes to them. -/
import Derived.Test.YtefcchpjbojdkaaGreatDoorPChunkPutsx0
import Derived.Test.YtefcchpjbojdkaaGreatDoorPChunkPutsx3
import Derived.Test.YtefcchpjbojdkaaGreatDoorPChunkPutsx4
import Derived.Test.YtefcchpjbojdkaaGreatDoorPChunkPutsx5
import Derived.Test.YtefcchpjbojdkaaGreatDoorPChunkPutsx6
namespace Go.Proofs.YtefcchpjbojdkaaGreatDoor.PChunkPuts
open Go.RowKit Go.Proofs.YtefcchpjbojdkaaGreatDoorW.PrintWords Go.Proofs.YtefcchpjbojdkaaGreatDoorW.PrintLast Go.Proofs.YtefcchpjbojdkaaGreatDoorW.PrintMore
attribute [local go_sem] max2_int min2_int max_two min_two max_three min_three max_four min_four   -- for this text's walks alone
set_option linter.unusedVariables false
set_option linter.unusedSimpArgs false

/-! ### runs_Put: function 46 -/
/-! words of this session: plain facts on numbers and lists -/
theorem w64 {n : Int} (h0 : -9223372036854775808 ≤ n) (h1 : n ≤ 9223372036854775807) : wrap64 n = n := by unfold wrap64; omega
theorem u64w (n : Int) : IntKind.u64.wrap n = n % 18446744073709551616 := by simp [IntKind.wrap, IntKind.bits, IntKind.signed]
theorem u64w_id {n : Int} (h0 : 0 ≤ n) (h1 : n < 18446744073709551616) : IntKind.u64.wrap n = n := by rw [u64w]; omega
theorem rd_nat (xs : List Int) (i : Nat) : rd xs (i : Int) = xs.getD i 0 := by simp [rd]
theorem rd_get {xs : List Int} {i : Nat} (h : i < xs.length) : rd xs (i : Int) = xs[i] := by simp [rd, h]
theorem dropc {α : Type} (l : List α) (i : Nat) (h : i < l.length) : l.drop i = l[i] :: l.drop (i + 1) := List.drop_eq_getElem_cons h

/-! the short number of a number, and what puts it -/
def leb (v : Nat) : List Int := if h : v < 128 then [(v : Int)] else ((v % 128 + 128 : Nat) : Int) :: leb (v / 128)
theorem leb_small {v : Nat} (h : v < 128) : leb v = [(v : Int)] := by rw [leb, dif_pos h]
theorem leb_big {v : Nat} (h : ¬ v < 128) : leb v = ((v % 128 + 128 : Nat) : Int) :: leb (v / 128) := by rw [leb, dif_neg h]
theorem leb_length : ∀ (n v : Nat), v < 128 ^ (n + 1) → (leb v).length ≤ n + 1 := by
 intro n
 induction n with
 | zero => intro v h; rw [leb_small (by simpa using h)]; simp
 | succ n ih =>
  intro v h
  by_cases hv : v < 128
  ·rw [leb_small hv]; simp
  ·rw [leb_big hv, List.length_cons]
   have := ih (v / 128) (by rw [Nat.div_lt_iff_lt_mul (by decide)]; rw [Nat.pow_succ] at h; omega)
   omega
theorem p128 : (18446744073709551616 : Nat) < 128 ^ (9 + 1) := by decide
theorem leb_length10 {v : Nat} (h : v < 18446744073709551616) : (leb v).length ≤ 10 := leb_length 9 v (Nat.lt_trans h p128)

theorem putvar_l0 : ∀ (n k v : Nat) (b : List Int), v < 128 ^ (n + 1) → n < k → b.length + n < 140737488355328 → num_PutVar.l0 k b v = some (b ++ leb v) := by
 intro n
 induction n with
 | zero =>
  intro k v b hv hk hb
  obtain ⟨k, rfl⟩ : ∃ m, k = m + 1 := ⟨k - 1, by omega⟩
  simp only [num_PutVar.l0]
  rw [if_neg (by omega), if_pos (by omega), leb_small (by omega)]
  rw [Int.emod_eq_of_lt (by omega) (by omega)]
 | succ n ih =>
  intro k v b hv hk hb
  obtain ⟨k, rfl⟩ : ∃ m, k = m + 1 := ⟨k - 1, by omega⟩
  simp only [num_PutVar.l0]
  by_cases h : v < 128
  ·rw [if_neg (by omega), if_pos (by omega), leb_small h, Int.emod_eq_of_lt (by omega) (by omega)]
  ·rw [if_pos (by omega), if_pos (by omega), Lib.u8_or128_any _ (by omega) (by omega), leb_big h]
   have e : (v : Int) / 128 = ((v / 128 : Nat) : Int) := by omega
   rw [e, ih k (v / 128) _ (by rw [Nat.div_lt_iff_lt_mul (by decide)]; rw [Nat.pow_succ] at hv; omega) (by omega) (by simp; omega)]
   have e2 : (v : Int) % 256 % 128 + 128 = ((v % 128 + 128 : Nat) : Int) := by omega
   rw [e2]; simp
theorem putvar_f {v : Int} {b : List Int} {k : Nat} (h0 : 0 ≤ v) (h1 : v < 18446744073709551616) (hk : 10 ≤ k) (hb : b.length < 140737488000000) : num_PutVar.f k b v = some (b ++ leb v.toNat) := by
 obtain ⟨n, rfl⟩ := Int.eq_ofNat_of_zero_le h0
 unfold num_PutVar.f
 exact putvar_l0 9 k n b (Nat.lt_trans (by omega) p128) (by omega) (by omega)

/-! num.Zig -/
def zz (x : Int) : Int := if 0 ≤ x then 2 * x else -2 * x - 1
theorem zz_range {x : Int} (h0 : -9223372036854775808 ≤ x) (h1 : x ≤ 9223372036854775807) : 0 ≤ zz x ∧ zz x < 18446744073709551616 := by
 unfold zz; split <;> omega
theorem zig_f {x : Int} (h0 : -9223372036854775808 ≤ x) (h1 : x ≤ 9223372036854775807) : num_Zig.f x = some (zz x) := by
 unfold num_Zig.f zz
 by_cases h : 0 ≤ x
 ·rw [if_pos h]
  have e1 : IntKind.u64.wrap (IntKind.u64.wrap x * 2) = (((2 * x).toNat : Nat) : Int) := by rw [u64w, u64w]; omega
  have e2 : IntKind.u64.wrap (x / 9223372036854775808) = ((0 : Nat) : Int) := by rw [u64w]; omega
  rw [e1, e2, bits_xor_u64_nat _ _ (by omega) (by omega), Nat.xor_zero]
  congr 1; omega
 ·rw [if_neg h]
  have e1 : IntKind.u64.wrap (IntKind.u64.wrap x * 2) = (((2 * x + 18446744073709551616).toNat : Nat) : Int) := by rw [u64w, u64w]; omega
  have e2 : IntKind.u64.wrap (x / 9223372036854775808) = ((2 ^ 64 - 1 : Nat) : Int) := by rw [u64w]; omega
  rw [e1, e2, bits_xor_u64_nat _ _ (by omega) (by decide), Nat.xor_comm, Lib.xor_ones64 _ (by omega)]
  congr 1; omega

section
open Go.Shelf
attribute [local go_sem] Oper.semAt_some
def runForm (r : List (Int × Nat)) : List Int := r.flatMap fun x => leb (x.2 - 1) ++ leb (zz x.1).toNat
theorem runForm_snoc (r : List (Int × Nat)) (x : Int × Nat) : runForm (r ++ [x]) = runForm r ++ leb (x.2 - 1) ++ leb (zz x.1).toNat := by simp [runForm]
abbrev RunX := { x : Int × Nat // (-9223372036854775808 ≤ x.1 ∧ x.1 ≤ 9223372036854775807) ∧ 1 ≤ x.2 ∧ x.2 ≤ 65536 }
def runFormX (r : List RunX) : List Int := runForm (r.map Subtype.val)
theorem runFormX_snoc (r : List RunX) (x : RunX) : runFormX (r ++ [x]) = runFormX r ++ leb (x.1.2 - 1) ++ leb (zz x.1.1).toNat := by
 unfold runFormX; rw [List.map_append, List.map_cons, List.map_nil, runForm_snoc]
theorem runFormX_length (r : List RunX) : (runFormX r).length ≤ 20 * r.length := by
 induction r with
 | nil => exact Nat.zero_le _
 | cons x r ih =>
  have h1 := leb_length10 (v := x.1.2 - 1) (by have := x.2.2; omega)
  have hz := zz_range x.2.1.1 x.2.1.2
  have h2 := leb_length10 (v := (zz x.1.1).toNat) (by omega)
  have e : runFormX (x :: r) = leb (x.1.2 - 1) ++ leb (zz x.1.1).toNat ++ runFormX r := by simp [runFormX, runForm]
  rw [e, List.length_append, List.length_append, List.length_cons]; omega
theorem runsOf_ok : ∀ l : List Int, (∀ x ∈ l, -9223372036854775808 ≤ x ∧ x ≤ 9223372036854775807) → ∀ y ∈ runsOf l, (-9223372036854775808 ≤ y.1 ∧ y.1 ≤ 9223372036854775807) ∧ 1 ≤ y.2 ∧ y.2 ≤ l.length := by
 intro l
 induction l with
 | nil => intro _ y hy; simp [runsOf] at hy
 | cons x l ih =>
  intro h y hy
  have hx := h x (by simp)
  have ih' := ih (fun z hz => h z (by simp [hz]))
  rw [runsOf] at hy
  split at hy
  ·simp at hy; subst hy; exact ⟨hx, by simp⟩
  ·rename_i z k r he
   rw [he] at ih'
   have hz := ih' (z, k) (by simp)
   by_cases e : x = z
   ·rw [if_pos e] at hy
    rcases List.mem_cons.1 hy with rfl | hy
    ·exact ⟨hz.1, by simp only [List.length_cons]; have := hz.2; simp at this ⊢; omega⟩
    ·have := ih' y (by simp [hy]); exact ⟨this.1, this.2.1, by simp only [List.length_cons]; omega⟩
   ·rw [if_neg e] at hy
    rcases List.mem_cons.1 hy with rfl | hy
    ·exact ⟨hx, by simp⟩
    ·have := ih' y hy; exact ⟨this.1, this.2.1, by simp only [List.length_cons]; omega⟩
theorem cell_of_box_lp {W : World} {B : Nat} {v : Value} {t : TypeId} (h : W.heap[B]? = some (.cells #[v] t (0, 0))) : W.cell? ⟨B, 0, none⟩ = some v ∧ W.frozen? ⟨B, 0, none⟩ = false := by
 constructor <;> simp [World.cell?, World.frozen?, h]
theorem cell_new_lp (W : World) (v : Value) (t : TypeId) : (W.alloc (.cells #[v] t)).cell? ⟨W.heap.size, 0, none⟩ = some v ∧ (W.alloc (.cells #[v] t)).frozen? ⟨W.heap.size, 0, none⟩ = false :=
 cell_of_box_lp (World.alloc_heap_new W _)
theorem same_putObjp (W : World) (l k : Nat) (o' : Obj) (h : k ≠ l) : (W.putObj l o').heap[k]? = W.heap[k]? := by
 unfold World.putObj; simp [Array.getElem?_setIfInBounds]; intro e; exact absurd e.symm h
theorem sub1 (n : Nat) (h1 : 1 ≤ n) (h2 : n ≤ 65536) : IntKind.u64.wrap ((n : Int) - 1) = ((n - 1 : Nat) : Int) := by rw [u64w_id (by omega) (by omega)]; omega
theorem R_raise {w : World} {base : Nat} {v : Value} {xs : List Int} {ok : Nat → Prop} (h : Kd.R (Kd.int .u8) 5 w base ok v xs) : w.ownsRow base 5 1 v xs.length (nums .u8 xs) ∧ ∀ k, v.ownBlock = some k → ok k := by
 refine ⟨Kd.own_of_R h, ?_⟩
 exact h.1
theorem put_same {w W w1 w2 : World} {v : Value} {mz : Nat} (hok : ∀ k, v.ownBlock = some k → w.heap.size + 2 ≤ k) (hsz : w.heap.size + 1 < W.heap.size) (hK1 : Kept W w1 (fun k => some k = v.ownBlock)) (hK2 : Kept (w1.drewN mz) w2 (fun k => some k = v.ownBlock ∨ W.heap.size ≤ k)) :
  ∀ k, k < W.heap.size → some k ≠ v.ownBlock → w2.heap[k]? = W.heap[k]? := fun k hk hne =>
 (hK2.2 k (Nat.lt_of_lt_of_le hk hK1.1) (fun h => h.elim hne (fun h => absurd h (Nat.not_le.2 hk)))).trans (hK1.2 k hk hne)
set_option maxRecDepth 100000 in
set_option maxHeartbeats 4000000 in
theorem put_in (n : Nat) (hn : 3 ≤ n) (a : Option Addr) (cap : Nat) (zs : List Int) (hle : zs.length ≤ 65536) (hw : ∀ x ∈ zs, -9223372036854775808 ≤ x ∧ x ≤ 9223372036854775807) (w : World) (hI : Ints w.heap.size w.heap.size w (.slice a zs.length cap) zs) :
  CallsIn Fence.wide n Tryz.prog 46 #[.slice a zs.length cap] w fun e w' => ∃ v0_ : Value, e = .returned (.tuple #[v0_, .int .i64 0]) ∧ Kd.R (Kd.int .u8) 5 w' w.heap.size (fun _ => True) v0_ (runForm (runsOf zs)) ∧ Below w.heap.size w w' := by
 have h1 : 1 ≤ n := by omega
 refine callsIn_of_wp_marks Tryz.func46 rfl trivial ?_ rfl
 simp only [Tryz.ntmps46, List.size_toArray, List.length_cons, List.length_nil, Nat.reduceAdd, Nat.reduceSub, Array.replicate_succ, Array.replicate_zero, List.push_toArray, List.append_toArray, List.nil_append, List.cons_append]
 have hgt : decide ((65536 : Int) < (zs.length : Int)) = false := decide_eq_false (by omega)
 gi_wp2_with (refine ⟨trivial, ?_⟩; gi_at_call 84; refine (each_in (n - 1) _ _ _ _).mono ?_; rintro e w' ⟨rfl, rfl⟩)
 have hs := cell_new_lp w (.slice none 0 0) 25
 have hb := cell_new_lp (w.alloc (.cells #[.slice none 0 0] 25)) (.slice a zs.length cap) 41
 rw [World.size_alloc] at hb
 have hB0 : Below w.heap.size w ((w.alloc (.cells #[.slice none 0 0] 25)).alloc (.cells #[.slice a zs.length cap] 41)) := ((Below.refl _ w).alloc (Nat.le_refl _) _).alloc (by simp) _
 have hI2 : Ints (w.heap.size + 2) w.heap.size ((w.alloc (.cells #[.slice none 0 0] 25)).alloc (.cells #[.slice a zs.length cap] 41)) (.slice a zs.length cap) zs := by
  rcases hI with ⟨e, h⟩ | ⟨b, off, cap', e, hbl, hc⟩
  ·exact .inl ⟨e, h⟩
  ·exact .inr ⟨b, off, cap', e, ⟨by omega, by omega⟩, fun j hj => (hB0.cell (p := ⟨b, off + j, none⟩) hbl.1).trans (hc j hj)⟩
 have hbox0 : Boxed ((w.alloc (.cells #[.slice none 0 0] 25)).alloc (.cells #[.slice a zs.length cap] 41)) w.heap.size 25 (.slice none 0 0) := (Boxed.new w 25 _).alloc _
 refine wpIn_rangeFunc_ownF rfl h1 (gf := 112) (lb := #[.pointer (some ⟨w.heap.size + 1, 0, none⟩)]) rfl trivial (enters_of Tryz.func112 (by kernel_rfl) rfl)
  (each_stops (fun x => (-9223372036854775808 ≤ x.1 ∧ x.1 ≤ 9223372036854775807) ∧ 1 ≤ x.2 ∧ x.2 ≤ 65536) (n - 1) (by omega) (w.heap.size + 1) (w.heap.size + 2) w.heap.size (.slice a zs.length cap) zs
   (fun y hy => by obtain ⟨h1, h2, h3⟩ := runsOf_ok zs hw y hy; exact ⟨h1, h2, Nat.le_trans h3 hle⟩) (by omega) _ (by simp) ⟨by omega, by omega⟩ (by simp) hb.1 hI2) (fun h k => h.trans k)
  (fun W l o o' hl _ _ _ k hk _ => by simp at hl; exact same_putObjp W l k o' (by omega)) (Below.refl _ _) (fun _ => rfl)
  (fun (pre : List RunX) W => (∃ v, Boxed W w.heap.size 25 v ∧ W.ownsRow w.heap.size 5 1 v (runFormX pre).length (nums .u8 (runFormX pre)) ∧ (∀ k, v.ownBlock = some k → w.heap.size + 2 ≤ k)) ∧ (W.cell? ⟨w.heap.size + 1, 0, none⟩ = some (.slice a zs.length cap) ∧ Below w.heap.size w W))
  (fun _ _ _ => False)
  (OwnFrom.and (Own.from (holdsRow_own w.heap.size w.heap.size 25 5 1 (fun pre => (runFormX pre).length) (fun pre => nums .u8 (runFormX pre)) (fun _ v => ∀ k, v.ownBlock = some k → w.heap.size + 2 ≤ k)) _) (OwnFrom.and (Own.from (fun s A B row hs hg hr => Go.cell_kept hs hg hr) _) (ownFrom_below (Nat.le_refl _) (by simp; omega))))
  (fun _ _ _ _ _ hs _ _ => hs)
  ⟨⟨_, hbox0, own_nil _ _ _ _, by simp [Value.ownBlock]⟩, hb.1, hB0⟩
  (fun x => { tmps := #[.slice a zs.length cap, undef, .slice none 0 0, .int .i64 0, .pointer (some ⟨w.heap.size, 0, none⟩), .int .i64 x.1.1, .int .i64 (x.1.2 : Int), .slice a zs.length cap, .int .i64 (zs.length : Int), .bool (decide (65536 < (zs.length : Int))), .slice a zs.length cap, .func (.func 112) #[] #[.pointer (some ⟨w.heap.size + 1, 0, none⟩)], .int .i64 x.1.1, .int .i64 (x.1.2 : Int), undef, undef, undef, undef, undef, undef, undef, undef, undef], defers := [] }) ?assign ?body ?done ?stop
 case assign =>
  intro l x W K hK
  gi_wp2
  simpa [hgt] using hK
 case body =>
  rintro l pre x W ⟨⟨v, hbx, hrow, hok⟩, hc1, hB⟩ hpl
  have hbc := hbx.cell
  have hbf := hbx.frozen
  have hxw := sub1 x.1.2 x.2.2.1 x.2.2.2
  have hsz : w.heap.size + 1 < W.heap.size := Go.block_lt_of_cell hc1
  have hfl := runFormX_length pre
  have hz := zz_range x.2.1.1 x.2.1.2
  have hzig := zig_f x.2.1.1 x.2.1.2
  have hp1 : num_PutVar.f 10 (runFormX pre) ((x.1.2 - 1 : Nat) : Int) = some (runFormX pre ++ leb (x.1.2 - 1)) := by
   have := putvar_f (v := ((x.1.2 - 1 : Nat) : Int)) (b := runFormX pre) (k := 10) (by omega) (by have := x.2.2.2; omega) (by omega) (by omega)
   rw [Int.toNat_natCast] at this; exact this
  have h10 := leb_length10 (v := x.1.2 - 1) (by have := x.2.2.2; omega)
  have hp2 : num_PutVar.f 10 (runFormX pre ++ leb (x.1.2 - 1)) (zz x.1.1) = some (runFormX (pre ++ [x])) := by
   rw [putvar_f hz.1 hz.2 (by omega) (by rw [List.length_append]; omega), runFormX_snoc]
  have hR0 : Kd.R (Kd.int .u8) 5 W w.heap.size (fun k => some k = v.ownBlock) v (runFormX pre) := Kd.R_of_own (h1 := fun _ => rfl) hrow (fun k hk => hk.symm)
  have hlt := Kd.R_lt hR0
  have Hz := Lib.hid hzig
  have H1 := Lib.hid hp1
  have H2 := Lib.hid hp2
  clear hzig hp1 hp2
  gi_wp2_with ((refine ⟨trivial, fun _ => by omega, ?_⟩; gi_at_call 39; refine (CallsIn.inRound l (callsIn_wide.2 (num_PutVar.calls 10 _ v (runFormX pre) _ _ w W hB hR0 H1.out))).mono ?_; clear H1; rintro e w1 ⟨v1, rfl, hR1, hB1, hK1⟩))
  gi_wp2_with ((refine ⟨trivial, fun _ => by omega, ?_⟩; gi_at_call 78; refine (CallsIn.inRound l (callsIn_wide.2 (num_Zig.calls _ _ _ Hz.out))).mono ?_; rintro e wz ⟨rfl, ⟨mz, rfl⟩⟩))
  gi_wp2_with ((refine ⟨trivial, fun _ => by omega, ?_⟩; gi_at_call 39; refine (CallsIn.inRound l (callsIn_wide.2 (num_PutVar.calls 10 _ v1 (runFormX pre ++ leb (x.1.2 - 1)) _ _ w (w1.drewN mz) (pw_below_drewN hB1 mz) (Kd.R_drewN hR1 mz) H2.out))).mono ?_; clear H2; rintro e w2 ⟨v2, rfl, hR2, hB2, hK2⟩; obtain ⟨A2, c2, rfl⟩ := Kd.R_slice hR2; have hsame := put_same hok hsz hK1 hK2; have hbx2 : w2.heap[w.heap.size]? = some (.cells #[v] 25 (0, 0)) := (hsame w.heap.size (by omega) (fun e => by have := hok _ e.symm; omega)).trans hbx; have hbc2 := (cell_of_box_lp hbx2).1; have hbf2 := (cell_of_box_lp hbx2).2))
  have hty := Kd.R_typed hR0
  have hle2 : W.heap.size ≤ w2.heap.size := Nat.le_trans hK1.1 hK2.1
  have hSame : Same (w.heap.size + 2) w.heap.size W (w2.setCell ⟨w.heap.size, 0, none⟩ (.slice A2 (runFormX (pre ++ [x])).length c2)) := fun k hk hne =>
   (Below.heap_setCell w2 _ _ k hne).trans (hsame k (by omega) (fun e => by have := hok _ e.symm; omega))
  have hokk : ∀ k, ((some k = v.ownBlock ∨ W.heap.size ≤ k) ∨ (w1.drewN mz).heap.size ≤ k) → w.heap.size + 2 ≤ k := fun k hk => by
   rcases hk with (h | h) | h
   ·exact hok _ h.symm
   ·omega
   ·exact Nat.le_trans hsz (Nat.le_trans (show W.heap.size ≤ (w1.drewN mz).heap.size from hK1.1) h)
  have hR3 := Kd.R_far (p := ⟨w.heap.size, 0, none⟩) hR2 (fun k hk (e : k = w.heap.size) => absurd (hokk k hk) (by rw [e]; omega)) (.slice A2 (runFormX (pre ++ [x])).length c2)
  obtain ⟨ho3, hk3⟩ := R_raise hR3
  refine ⟨⟨Nat.le_trans hle2 (by simp), fun k o hk ho => ?_⟩, hSame, ⟨_, ?_, ho3, fun k hk => ?_⟩, (hSame.cell ⟨by omega, by omega⟩).trans hc1, hB2.setCell (p := ⟨w.heap.size, 0, none⟩) (Nat.le_refl _) _⟩
  ·have hlk : k < W.heap.size := (Array.getElem?_eq_some_iff.1 hk).1
   have hne : k ≠ w.heap.size := fun e => by rw [e, show W.heap[w.heap.size]? = _ from hbx] at hk; cases hk; cases ho
   rw [Below.heap_setCell w2 _ _ k hne, hsame k hlk (fun e => by obtain ⟨cs, hcs⟩ := hty k e.symm; rw [hcs] at hk; cases hk; cases ho)]
   exact hk
  ·exact (blk_set hbx2 0 _).trans (by rfl)
  ·exact hokk _ (hk3 k hk)
 case done =>
  rintro D ys W hD hys ⟨⟨v, hbx, hrow, hok⟩, hc1, hB⟩ hK
  have hbc := hbx.cell
  gi_wp2
  have hys2 : runFormX ys = runForm (runsOf zs) := by unfold runFormX; rw [hys]
  refine ⟨by simp, .inl ⟨_, _, rfl, run_takeDeferred hK, ?_⟩⟩
  refine ⟨_, results_tmp2 rfl _ _ _, v, rfl, ?_, hB.trans (belowK_b (w := w) (Nat.le_refl _) W D _ _ (by simp at hD; omega) hK rfl rfl)⟩
  rw [← hys2]
  exact Kd.R_of_own (h1 := fun _ => rfl) (ownsRow_putObj hrow _ hK rfl) (fun _ _ => trivial)
 case stop =>
  rintro D c pre W _ _ h _
  exact h.elim
def runs_Put.f (l0 : List Int) : Option (List Int × Int) := if l0.length > 65536 then (if l0.length ≤ 9223372036854775807 then some ([], 12) else none) else if ∀ x ∈ l0, -9223372036854775808 ≤ x ∧ x ≤ 9223372036854775807 then some (runForm (runsOf l0), 0) else none
set_option maxHeartbeats 4000000 in
theorem put_long (A0 : Option Addr) (c0 n : Nat) (w : World) (hn : 65536 < n) (hm : n ≤ 9223372036854775807) :
  Calls Tryz.prog 46 #[.slice A0 n c0] w fun e w' => e = .returned (.tuple #[.slice none 0 0, .int .i64 12]) ∧ w = w' := by
 have hd : decide (65536 < n) = true := decide_eq_true hn
 go_enter Tryz.func46, Tryz.ntmps46
 go_wp2
 go_ret2
 exact ⟨rfl, rfl⟩
theorem runs_Put.calls (A0 : Option Addr) (c0 : Nat) (l0 : List Int) (r1 : List Int) (r2 : Int) (w : World) (hr0 : Kd.C (Kd.int .i64) w A0 l0.length l0) (hc0 : l0.length ≤ c0) (h : runs_Put.f l0 = some (r1, r2)) :
  Calls Tryz.prog 46 #[.slice A0 l0.length c0] w fun e w' => ∃ v0_ : Value, e = .returned (.tuple #[v0_, .int .i64 r2]) ∧ Kd.R (Kd.int .u8) 5 w' w.heap.size (fun _ => True) v0_ r1 ∧ Below w.heap.size w w' := by
 unfold runs_Put.f at h
 by_cases hl : l0.length > 65536
 ·rw [if_pos hl] at h
  by_cases hm : l0.length ≤ 9223372036854775807
  ·rw [if_pos hm] at h
   simp only [Option.some.injEq, Prod.mk.injEq] at h
   obtain ⟨rfl, rfl⟩ := h
   refine (put_long A0 c0 l0.length w hl hm).mono ?_
   rintro e w' ⟨rfl, rfl⟩
   exact ⟨_, rfl, Kd.R_nil _ _ _ _ _, Below.refl _ _⟩
  ·rw [if_neg hm] at h; cases h
 ·rw [if_neg hl] at h
  by_cases hw : ∀ x ∈ l0, -9223372036854775808 ≤ x ∧ x ≤ 9223372036854775807
  ·rw [if_pos hw] at h
   simp only [Option.some.injEq, Prod.mk.injEq] at h
   obtain ⟨rfl, rfl⟩ := h
   exact callsIn_wide.1 (put_in 3 (by omega) A0 c0 l0 (by omega) hw w (Ints.of_C hr0 _ (Nat.le_refl _)))
  ·rw [if_neg hw] at h; cases h
end

/-! ### runs_Get: function 47 -/
def delta_zigs.l0 : Nat → List Int → List Int → Int → Int → Option (List Int)
 | 0, _, _, _, _ => none
 | k + 1, x3, x6, x7, x8 => if x8 < x7 then (if 0 ≤ x8 then (if x8 < (x6.length : Int) then ((num_Zig.f (rd x6 x8)).bind fun t223 => (if x3.length < 17592186044416 then (delta_zigs.l0 k (x3 ++ [t223]) x6 x7 (wrap64 (x8 + 1))) else (none))) else (none)) else (none)) else (some x3)
def delta_zigs.f (k : Nat) (l0 : List Int) : Option (List Int) := delta_zigs.l0 k ([] : List Int) l0 (l0.length : Int) 0
set_option maxHeartbeats 8000000 in
set_option maxRecDepth 100000 in
theorem delta_zigs.calls (k : Nat) (A0 : Option Addr) (c0 : Nat) (l0 : List Int) (r : List Int) (w : World) (hr0 : Kd.C (Kd.int .i64) w A0 l0.length l0) (hc0 : l0.length ≤ c0) (h : delta_zigs.f k l0 = some r) :
  Calls Tryz.prog 85 #[.slice A0 l0.length c0] w fun e w' => ∃ v0_ : Value, e = .returned (v0_) ∧ Kd.R (Kd.int .u64) 66 w' w.heap.size (fun _ => True) v0_ r ∧ Below w.heap.size w w' := by
 have HR0 := Aside0.mk hr0
 have HC0 := Aside0.mk hc0
 clear hr0 hc0
 have HB := Aside0.mk (Below.refl w.heap.size w)
 have H : (delta_zigs.l0 k ([] : List Int) l0 (l0.length : Int) 0) = some r := h
 clear h
 have H' := Aside0.mk H
 clear H
 go_enter Tryz.func85, Tryz.ntmps85
 go_wp2
 go_loopg [3, 8] k (fun kq v3 v8 w' => ∃ (x3_1 : List Int) (x8_1 : Int), v8 = .int .i64 x8_1 ∧ Aside0 (delta_zigs.l0 kq x3_1 l0 (l0.length : Int) x8_1 = some r) ∧ Aside0 (kq ≤ k) ∧ Aside0 (Kd.R (Kd.int .u64) 66 w' w.heap.size (fun _ => True) v3 x3_1) ∧ Aside0 (Below w.heap.size w w'))
 case atStart => exact ⟨(([] : List Int)), (0), EB, H', ⟨Nat.le_refl _⟩, ⟨by first | exact Kd.R_nil _ _ _ _ _ | exact Kd.N_nil _ _ _ _ _ | exact Kd.V_nil _ _ _ _ _ | exact Kd.Q_nil _ _ _ _ _ | exact Kd.S_nil _ _ _ _ _⟩, ⟨BU HB.out⟩⟩
 case round =>
  clear H'
  obtain ⟨x3_1, x8_1, rfl, HA, HK1, HO_3, HB⟩ := hrel
  cases gk with
  | zero => exact absurd HA.out (by simp [delta_zigs.l0])
  | succ k1 =>
   have H := HA.out
   clear HA
   simp only [delta_zigs.l0] at H
   by_cases c2 : x8_1 < (l0.length : Int)
   ·rw [if_pos c2] at H
    have c2b0 : decide (x8_1 < (l0.length : Int)) = true := decide_eq_true c2
    clear c2
    by_cases c3 : 0 ≤ x8_1
    ·rw [if_pos c3] at H
     have c3b0 : decide (0 ≤ x8_1) = true := decide_eq_true c3
     clear c3
     by_cases c4 : x8_1 < (l0.length : Int)
     ·rw [if_pos c4] at H
      have c4b0 : decide (x8_1 < (l0.length : Int)) = true := decide_eq_true c4
      clear c4
      replace H := Option.bind_eq_some_iff.mp H
      obtain ⟨t223, A50, H⟩ := H
      replace H : (if x3_1.length < 17592186044416 then (delta_zigs.l0 k1 (x3_1 ++ [t223]) l0 (l0.length : Int) (wrap64 (x8_1 + 1))) else (none)) = some r := H
      have A5 := Aside0.mk A50
      clear A50
      by_cases c6 : x3_1.length < 17592186044416
      ·rw [if_pos c6] at H
       have LMc6 := Aside0.mk c6
       clear c6
       obtain ⟨y224, hy224⟩ : ∃ y_ : List Int, y_ = (x3_1 ++ [t223]) := ⟨_, rfl⟩
       replace H : (delta_zigs.l0 k1 y224 l0 (l0.length : Int) (wrap64 (x8_1 + 1))) = some r := by first | (rw [hy224]; with_reducible exact H) | (have H2_ := (Option.bind_some _ _).symm.trans H; rw [hy224]; with_reducible exact H2_) | (have H2_ := (Option.bind_some _ _).symm.trans H; with_reducible exact H2_) | with_reducible exact H | (rw [hy224]; exact H) | exact H
       have Ny224 := Aside0.mk hy224
       clear hy224
       have H' := Aside0.mk H
       clear H
       have p222 : 0 ≤ (x8_1 : Int) := OD
       have q222 : x8_1 < (l0.length : Int) := OD
       obtain ⟨ad222, e222, hx222_0⟩ := Kd.at_int HR0.out x8_1 p222 q222
       cases e222
       replace hx222_0 := (HB.out.cell (World.block_lt_of_cell? w _ hx222_0)).trans hx222_0
       replace p222 := eq_true p222
       replace q222 := eq_true q222
       go_wp2_with (first | ((with_reducible refine gate_callee (f := 78) rfl ?_); refine goesL_ (some 14) rfl rfl Tryz.func78 (by kernel_rfl) rfl #[.int .i64 (rd l0 x8_1)] rfl EA ?_; (with_reducible refine (num_Zig.calls (rd l0 x8_1) t223 _ A5.out).mono ?_); rintro e w' ⟨rfl, ⟨nd, rfl⟩⟩; refine ⟨_, rfl, ?_⟩) | ((with_reducible refine gate_builtin (b := .append) (xs := #[.tmp 12, .tmp 15]) rfl ?_); at_builtin; refine Kd.R_append (Kd.int .u64) (w0 := w) w.heap.size rfl (.tmp 12) (.tmp 15) 68 66 (.int .u64 0) 8 rfl Tryz.underlying68 info66 rfl (by decide) (by omega) u3 x3_1 t223 [.int .u64 t223] (fun _ => True) (fun _ => False) rfl rfl ?aP (fun _ hk => hk.elim) ?aF ?aO ?aB ?aS ?aL ?_; (case aP => exact rfl); (case aB => exact (BU HB.out)); (case aF => exact (fun _ _ => trivial)); (case aO => exact (RU HO_3.out)); (case aS => exact (below_size (BU HB.out))); (case aL => have := LMc6.out; omega); intro v225 w7 ho hb hg hat; rw [← Ny224.out] at ho; have n0_ := Aside0.mk (hb); have n1_ := Aside0.mk (ho); clear HB HO_3; have HB := n0_; have HO226 := n1_; clear n0_ n1_; clear ho hb hg hat))
       go_roundg k1
       case measure => have := HK1.out; omega
       case rel => exact ⟨(y224), (wrap64 (x8_1 + 1)), EB, H', ⟨by have := HK1.out; omega⟩, ⟨RU HO226.out⟩, ⟨BU HB.out⟩⟩
      ·rw [if_neg c6] at H
       exact absurd H (by simp)
     ·rw [if_neg c4] at H
      exact absurd H (by simp)
    ·rw [if_neg c3] at H
     exact absurd H (by simp)
   ·rw [if_neg c2] at H
    have c2b0 : decide (x8_1 < (l0.length : Int)) = false := decide_eq_false c2
    clear c2
    obtain rfl := Option.some.inj H
    go_wp2
    go_ret
    exact ⟨_, by first | rfl | (simp [errW_none, errW_some] <;> rfl) | (simp [*, errW_none, errW_some] <;> rfl), RU HO_3.out, BU HB.out⟩

end Go.Proofs.YtefcchpjbojdkaaGreatDoor.PChunkPuts
