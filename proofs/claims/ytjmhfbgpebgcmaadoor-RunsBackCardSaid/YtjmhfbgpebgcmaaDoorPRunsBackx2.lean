/- WRITTEN BY A PROGRAM of this session (wip/tool: a turned copy of the printer), out of the translation: Lean functions with the answers of the Go functions, and the proofs that the Go code comes to them. -/
import Derived.Test.YtjmhfbgpebgcmaaDoorPRunsBackx0
import Derived.Test.YtjmhfbgpebgcmaaDoorPRunsBackx1
namespace Go.Proofs.YtjmhfbgpebgcmaaDoor.PRunsBack
open Go.RowKit Go.Proofs.YtjmhfbgpebgcmaaDoorW.PrintWords Go.Proofs.YtjmhfbgpebgcmaaDoorW.PrintLast Go.Proofs.YtjmhfbgpebgcmaaDoorW.PrintMore
attribute [local go_sem] max2_int min2_int max_two min_two max_three min_three max_four min_four   -- for this text's walks alone
set_option linter.unusedVariables false
set_option linter.unusedSimpArgs false

/-! ### runs_Put: function 43 -/
/-! words of this session: plain facts on numbers and lists -/
theorem w64 {n : Int} (h0 : -9223372036854775808 ≤ n) (h1 : n ≤ 9223372036854775807) : wrap64 n = n := by unfold wrap64; omega
theorem u64w (n : Int) : IntKind.u64.wrap n = n % 18446744073709551616 := by simp [IntKind.wrap, IntKind.bits, IntKind.signed]
theorem u64w_id {n : Int} (h0 : 0 ≤ n) (h1 : n < 18446744073709551616) : IntKind.u64.wrap n = n := by rw [u64w]; omega
theorem rd_nat (xs : List Int) (i : Nat) : rd xs (i : Int) = xs.getD i 0 := by simp [rd]
theorem rd_get {xs : List Int} {i : Nat} (h : i < xs.length) : rd xs (i : Int) = xs[i] := by simp [rd, h]
theorem wf_i64 {x : Int} (h : (Lit.int .i64 x).wf = true) : -9223372036854775808 ≤ x ∧ x ≤ 9223372036854775807 := by
  simp [Lit.wf, IntKind.min, IntKind.max, IntKind.signed, IntKind.bits] at h; omega
theorem wf_u64 {x : Int} (h : (Lit.int .u64 x).wf = true) : 0 ≤ x ∧ x < 18446744073709551616 := by
  simp [Lit.wf, IntKind.min, IntKind.max, IntKind.signed, IntKind.bits] at h; omega
theorem wf_u8 {x : Int} (h : (Lit.int .u8 x).wf = true) : 0 ≤ x ∧ x < 256 := by
  simp [Lit.wf, IntKind.min, IntKind.max, IntKind.signed, IntKind.bits] at h; omega
theorem dropc {α : Type} (l : List α) (i : Nat) (h : i < l.length) : l.drop i = l[i] :: l.drop (i + 1) := List.drop_eq_getElem_cons h

/-! the short number of a number, and what puts it -/
def leb (v : Nat) : List Int := if h : v < 128 then [(v : Int)] else ((v % 128 + 128 : Nat) : Int) :: leb (v / 128)
theorem leb_small {v : Nat} (h : v < 128) : leb v = [(v : Int)] := by rw [leb, dif_pos h]
theorem leb_big {v : Nat} (h : ¬ v < 128) : leb v = ((v % 128 + 128 : Nat) : Int) :: leb (v / 128) := by rw [leb, dif_neg h]
theorem leb_length : ∀ (n v : Nat), v < 128 ^ (n + 1) → (leb v).length ≤ n + 1 := by
  intro n
  induction n with
  | zero => intro v h; rw [leb_small (by simpa using h)]; simp
  | succ n ih =>
    intro v h
    by_cases hv : v < 128
    · rw [leb_small hv]; simp
    · rw [leb_big hv, List.length_cons]
      have := ih (v / 128) (by rw [Nat.div_lt_iff_lt_mul (by decide)]; rw [Nat.pow_succ] at h; omega)
      omega
theorem p128 : (18446744073709551616 : Nat) < 128 ^ (9 + 1) := by decide
theorem leb_length10 {v : Nat} (h : v < 18446744073709551616) : (leb v).length ≤ 10 := leb_length 9 v (Nat.lt_trans h p128)

theorem putvar_l0 : ∀ (n k v : Nat) (b : List Int), v < 128 ^ (n + 1) → n < k → b.length + n < 140737488355328 → num_PutVar.l0 k b v = some (b ++ leb v) := by
  intro n
  induction n with
  | zero =>
    intro k v b hv hk hb
    obtain ⟨k, rfl⟩ : ∃ m, k = m + 1 := ⟨k - 1, by omega⟩
    simp only [num_PutVar.l0]
    rw [if_neg (by omega), if_pos (by omega), leb_small (by omega)]
    rw [Int.emod_eq_of_lt (by omega) (by omega)]
  | succ n ih =>
    intro k v b hv hk hb
    obtain ⟨k, rfl⟩ : ∃ m, k = m + 1 := ⟨k - 1, by omega⟩
    simp only [num_PutVar.l0]
    by_cases h : v < 128
    · rw [if_neg (by omega), if_pos (by omega), leb_small h, Int.emod_eq_of_lt (by omega) (by omega)]
    · rw [if_pos (by omega), if_pos (by omega), Lib.u8_or128_any _ (by omega) (by omega), leb_big h]
      have e : (v : Int) / 128 = ((v / 128 : Nat) : Int) := by omega
      rw [e, ih k (v / 128) _ (by rw [Nat.div_lt_iff_lt_mul (by decide)]; rw [Nat.pow_succ] at hv; omega) (by omega) (by simp; omega)]
      have e2 : (v : Int) % 256 % 128 + 128 = ((v % 128 + 128 : Nat) : Int) := by omega
      rw [e2]; simp
theorem putvar_f {v : Int} {b : List Int} {k : Nat} (h0 : 0 ≤ v) (h1 : v < 18446744073709551616) (hk : 10 ≤ k) (hb : b.length < 140737488000000) : num_PutVar.f k b v = some (b ++ leb v.toNat) := by
  obtain ⟨n, rfl⟩ := Int.eq_ofNat_of_zero_le h0
  unfold num_PutVar.f
  exact putvar_l0 9 k n b (Nat.lt_trans (by omega) p128) (by omega) (by omega)

/-! num.Zig -/
def zz (x : Int) : Int := if 0 ≤ x then 2 * x else -2 * x - 1
theorem zz_range {x : Int} (h0 : -9223372036854775808 ≤ x) (h1 : x ≤ 9223372036854775807) : 0 ≤ zz x ∧ zz x < 18446744073709551616 := by
  unfold zz; split <;> omega
theorem zig_f {x : Int} (h0 : -9223372036854775808 ≤ x) (h1 : x ≤ 9223372036854775807) : num_Zig.f x = some (zz x) := by
  unfold num_Zig.f zz
  by_cases h : 0 ≤ x
  · rw [if_pos h]
    have e1 : IntKind.u64.wrap (IntKind.u64.wrap x * 2) = (((2 * x).toNat : Nat) : Int) := by rw [u64w, u64w]; omega
    have e2 : IntKind.u64.wrap (x / 9223372036854775808) = ((0 : Nat) : Int) := by rw [u64w]; omega
    rw [e1, e2, bits_xor_u64_nat _ _ (by omega) (by omega), Nat.xor_zero]
    congr 1; omega
  · rw [if_neg h]
    have e1 : IntKind.u64.wrap (IntKind.u64.wrap x * 2) = (((2 * x + 18446744073709551616).toNat : Nat) : Int) := by rw [u64w, u64w]; omega
    have e2 : IntKind.u64.wrap (x / 9223372036854775808) = ((2 ^ 64 - 1 : Nat) : Int) := by rw [u64w]; omega
    rw [e1, e2, bits_xor_u64_nat _ _ (by omega) (by decide), Nat.xor_comm, Lib.xor_ones64 _ (by omega)]
    congr 1; omega

section
open Go.Shelf
attribute [local go_sem] Oper.semAt_some
def runForm (r : List (Int × Nat)) : List Int := r.flatMap fun x => leb (x.2 - 1) ++ leb (zz x.1).toNat
theorem runForm_snoc (r : List (Int × Nat)) (x : Int × Nat) : runForm (r ++ [x]) = runForm r ++ leb (x.2 - 1) ++ leb (zz x.1).toNat := by simp [runForm]
abbrev RunX := { x : Int × Nat // (-9223372036854775808 ≤ x.1 ∧ x.1 ≤ 9223372036854775807) ∧ 1 ≤ x.2 ∧ x.2 ≤ 65536 }
def runFormX (r : List RunX) : List Int := runForm (r.map Subtype.val)
theorem runFormX_snoc (r : List RunX) (x : RunX) : runFormX (r ++ [x]) = runFormX r ++ leb (x.1.2 - 1) ++ leb (zz x.1.1).toNat := by
  unfold runFormX; rw [List.map_append, List.map_cons, List.map_nil, runForm_snoc]
theorem runFormX_length (r : List RunX) : (runFormX r).length ≤ 20 * r.length := by
  induction r with
  | nil => exact Nat.zero_le _
  | cons x r ih =>
    have h1 := leb_length10 (v := x.1.2 - 1) (by have := x.2.2; omega)
    have hz := zz_range x.2.1.1 x.2.1.2
    have h2 := leb_length10 (v := (zz x.1.1).toNat) (by omega)
    have e : runFormX (x :: r) = leb (x.1.2 - 1) ++ leb (zz x.1.1).toNat ++ runFormX r := by simp [runFormX, runForm]
    rw [e, List.length_append, List.length_append, List.length_cons]; omega
theorem runsOf_ok : ∀ l : List Int, (∀ x ∈ l, -9223372036854775808 ≤ x ∧ x ≤ 9223372036854775807) → ∀ y ∈ runsOf l, (-9223372036854775808 ≤ y.1 ∧ y.1 ≤ 9223372036854775807) ∧ 1 ≤ y.2 ∧ y.2 ≤ l.length := by
  intro l
  induction l with
  | nil => intro _ y hy; simp [runsOf] at hy
  | cons x l ih =>
    intro h y hy
    have hx := h x (by simp)
    have ih' := ih (fun z hz => h z (by simp [hz]))
    rw [runsOf] at hy
    split at hy
    · simp at hy; subst hy; exact ⟨hx, by simp⟩
    · rename_i z k r he
      rw [he] at ih'
      have hz := ih' (z, k) (by simp)
      by_cases e : x = z
      · rw [if_pos e] at hy
        rcases List.mem_cons.1 hy with rfl | hy
        · exact ⟨hz.1, by simp only [List.length_cons]; have := hz.2; simp at this ⊢; omega⟩
        · have := ih' y (by simp [hy]); exact ⟨this.1, this.2.1, by simp only [List.length_cons]; omega⟩
      · rw [if_neg e] at hy
        rcases List.mem_cons.1 hy with rfl | hy
        · exact ⟨hx, by simp⟩
        · have := ih' y hy; exact ⟨this.1, this.2.1, by simp only [List.length_cons]; omega⟩
theorem cell_of_box_lp {W : World} {B : Nat} {v : Value} {t : TypeId} (h : W.heap[B]? = some (.cells #[v] t (0, 0))) : W.cell? ⟨B, 0, none⟩ = some v ∧ W.frozen? ⟨B, 0, none⟩ = false := by
  constructor <;> simp [World.cell?, World.frozen?, h]
theorem cell_new_lp (W : World) (v : Value) (t : TypeId) : (W.alloc (.cells #[v] t)).cell? ⟨W.heap.size, 0, none⟩ = some v ∧ (W.alloc (.cells #[v] t)).frozen? ⟨W.heap.size, 0, none⟩ = false :=
  cell_of_box_lp (World.alloc_heap_new W _)
theorem same_putObjp (W : World) (l k : Nat) (o' : Obj) (h : k ≠ l) : (W.putObj l o').heap[k]? = W.heap[k]? := by
  unfold World.putObj; simp [Array.getElem?_setIfInBounds]; intro e; exact absurd e.symm h
theorem sub1 (n : Nat) (h1 : 1 ≤ n) (h2 : n ≤ 65536) : IntKind.u64.wrap ((n : Int) - 1) = ((n - 1 : Nat) : Int) := by rw [u64w_id (by omega) (by omega)]; omega
theorem R_raise {w : World} {base : Nat} {v : Value} {xs : List Int} {ok : Nat → Prop} (h : Kd.R (Kd.int .u8) 5 w base ok v xs) : w.ownsRow base 5 1 v xs.length (nums .u8 xs) ∧ ∀ k, v.ownBlock = some k → ok k := by
  refine ⟨Kd.own_of_R h, ?_⟩
  exact h.1
theorem put_same {w W w1 w2 : World} {v : Value} {mz : Nat} (hok : ∀ k, v.ownBlock = some k → w.heap.size + 2 ≤ k) (hsz : w.heap.size + 1 < W.heap.size) (hK1 : Kept W w1 (fun k => some k = v.ownBlock)) (hK2 : Kept (w1.drewN mz) w2 (fun k => some k = v.ownBlock ∨ W.heap.size ≤ k)) :
    ∀ k, k < W.heap.size → some k ≠ v.ownBlock → w2.heap[k]? = W.heap[k]? := fun k hk hne =>
  (hK2.2 k (Nat.lt_of_lt_of_le hk hK1.1) (fun h => h.elim hne (fun h => absurd h (Nat.not_le.2 hk)))).trans (hK1.2 k hk hne)
set_option maxRecDepth 100000 in
set_option maxHeartbeats 4000000 in
theorem put_in (n : Nat) (hn : 3 ≤ n) (a : Option Addr) (cap : Nat) (zs : List Int) (hle : zs.length ≤ 65536) (hw : ∀ x ∈ zs, -9223372036854775808 ≤ x ∧ x ≤ 9223372036854775807) (w : World) (hI : Ints w.heap.size w.heap.size w (.slice a zs.length cap) zs) :
    CallsIn Fence.wide n Tryd.prog 43 #[.slice a zs.length cap] w fun e w' => ∃ v0_ : Value, e = .returned (.tuple #[v0_, .int .i64 0]) ∧ Kd.R (Kd.int .u8) 5 w' w.heap.size (fun _ => True) v0_ (runForm (runsOf zs)) ∧ Below w.heap.size w w' := by
  have h1 : 1 ≤ n := by omega
  refine callsIn_of_wp_marks Tryd.func43 rfl trivial ?_ rfl
  simp only [Tryd.ntmps43, List.size_toArray, List.length_cons, List.length_nil, Nat.reduceAdd, Nat.reduceSub, Array.replicate_succ, Array.replicate_zero, List.push_toArray, List.append_toArray, List.nil_append, List.cons_append]
  have hgt : decide ((65536 : Int) < (zs.length : Int)) = false := decide_eq_false (by omega)
  gi_wp2_with (refine ⟨trivial, ?_⟩; gi_at_call 54; refine (each_in (n - 1) _ _ _ _).mono ?_; rintro e w' ⟨rfl, rfl⟩)
  have hs := cell_new_lp w (.slice none 0 0) 23
  have hb := cell_new_lp (w.alloc (.cells #[.slice none 0 0] 23)) (.slice a zs.length cap) 54
  rw [World.size_alloc] at hb
  have hB0 : Below w.heap.size w ((w.alloc (.cells #[.slice none 0 0] 23)).alloc (.cells #[.slice a zs.length cap] 54)) := ((Below.refl _ w).alloc (Nat.le_refl _) _).alloc (by simp) _
  have hI2 : Ints (w.heap.size + 2) w.heap.size ((w.alloc (.cells #[.slice none 0 0] 23)).alloc (.cells #[.slice a zs.length cap] 54)) (.slice a zs.length cap) zs := by
    rcases hI with ⟨e, h⟩ | ⟨b, off, cap', e, hbl, hc⟩
    · exact .inl ⟨e, h⟩
    · exact .inr ⟨b, off, cap', e, ⟨by omega, by omega⟩, fun j hj => (hB0.cell (p := ⟨b, off + j, none⟩) hbl.1).trans (hc j hj)⟩
  have hbox0 : Boxed ((w.alloc (.cells #[.slice none 0 0] 23)).alloc (.cells #[.slice a zs.length cap] 54)) w.heap.size 23 (.slice none 0 0) := (Boxed.new w 23 _).alloc _
  refine wpIn_rangeFunc_ownF rfl h1 (gf := 66) (lb := #[.pointer (some ⟨w.heap.size + 1, 0, none⟩)]) rfl trivial (enters_of Tryd.func66 (by kernel_rfl) rfl)
    (each_stops (fun x => (-9223372036854775808 ≤ x.1 ∧ x.1 ≤ 9223372036854775807) ∧ 1 ≤ x.2 ∧ x.2 ≤ 65536) (n - 1) (by omega) (w.heap.size + 1) (w.heap.size + 2) w.heap.size (.slice a zs.length cap) zs
      (fun y hy => by obtain ⟨h1, h2, h3⟩ := runsOf_ok zs hw y hy; exact ⟨h1, h2, Nat.le_trans h3 hle⟩) (by omega) _ (by simp) ⟨by omega, by omega⟩ (by simp) hb.1 hI2) (fun h k => h.trans k)
    (fun W l o o' hl _ _ _ k hk _ => by simp at hl; exact same_putObjp W l k o' (by omega)) (Below.refl _ _) (fun _ => rfl)
    (fun (pre : List RunX) W => (∃ v, Boxed W w.heap.size 23 v ∧ W.ownsRow w.heap.size 5 1 v (runFormX pre).length (nums .u8 (runFormX pre)) ∧ (∀ k, v.ownBlock = some k → w.heap.size + 2 ≤ k)) ∧ (W.cell? ⟨w.heap.size + 1, 0, none⟩ = some (.slice a zs.length cap) ∧ Below w.heap.size w W))
    (fun _ _ _ => False)
    (OwnFrom.and (Own.from (holdsRow_own w.heap.size w.heap.size 23 5 1 (fun pre => (runFormX pre).length) (fun pre => nums .u8 (runFormX pre)) (fun _ v => ∀ k, v.ownBlock = some k → w.heap.size + 2 ≤ k)) _) (OwnFrom.and (Own.from (fun s A B row hs hg hr => Go.cell_kept hs hg hr) _) (ownFrom_below (Nat.le_refl _) (by simp; omega))))
    (fun _ _ _ _ _ hs _ _ => hs)
    ⟨⟨_, hbox0, own_nil _ _ _ _, by simp [Value.ownBlock]⟩, hb.1, hB0⟩
    (fun x => { tmps := #[.slice a zs.length cap, undef, .slice none 0 0, .int .i64 0, .pointer (some ⟨w.heap.size, 0, none⟩), .int .i64 x.1.1, .int .i64 (x.1.2 : Int), .slice a zs.length cap, .int .i64 (zs.length : Int), .bool (decide (65536 < (zs.length : Int))), .slice a zs.length cap, .func (.func 66) #[] #[.pointer (some ⟨w.heap.size + 1, 0, none⟩)], .int .i64 x.1.1, .int .i64 (x.1.2 : Int), undef, undef, undef, undef, undef, undef, undef, undef, undef], defers := [] }) ?assign ?body ?done ?stop
  case assign =>
    intro l x W K hK
    gi_wp2
    simpa [hgt] using hK
  case body =>
    rintro l pre x W ⟨⟨v, hbx, hrow, hok⟩, hc1, hB⟩ hpl
    have hbc := hbx.cell
    have hbf := hbx.frozen
    have hxw := sub1 x.1.2 x.2.2.1 x.2.2.2
    have hsz : w.heap.size + 1 < W.heap.size := Go.block_lt_of_cell hc1
    have hfl := runFormX_length pre
    have hz := zz_range x.2.1.1 x.2.1.2
    have hzig := zig_f x.2.1.1 x.2.1.2
    have hp1 : num_PutVar.f 10 (runFormX pre) ((x.1.2 - 1 : Nat) : Int) = some (runFormX pre ++ leb (x.1.2 - 1)) := by
      have := putvar_f (v := ((x.1.2 - 1 : Nat) : Int)) (b := runFormX pre) (k := 10) (by omega) (by have := x.2.2.2; omega) (by omega) (by omega)
      rw [Int.toNat_natCast] at this; exact this
    have h10 := leb_length10 (v := x.1.2 - 1) (by have := x.2.2.2; omega)
    have hp2 : num_PutVar.f 10 (runFormX pre ++ leb (x.1.2 - 1)) (zz x.1.1) = some (runFormX (pre ++ [x])) := by
      rw [putvar_f hz.1 hz.2 (by omega) (by rw [List.length_append]; omega), runFormX_snoc]
    have hR0 : Kd.R (Kd.int .u8) 5 W w.heap.size (fun k => some k = v.ownBlock) v (runFormX pre) := Kd.R_of_own (h1 := fun _ => rfl) hrow (fun k hk => hk.symm)
    have hlt := Kd.R_lt hR0
    have Hz := Lib.hid hzig
    have H1 := Lib.hid hp1
    have H2 := Lib.hid hp2
    clear hzig hp1 hp2
    gi_wp2_with ((refine ⟨trivial, fun _ => by omega, ?_⟩; gi_at_call 11; refine (CallsIn.inRound l (callsIn_wide.2 (num_PutVar.calls 10 _ v (runFormX pre) _ _ w W hB hR0 H1.out))).mono ?_; clear H1; rintro e w1 ⟨v1, rfl, hR1, hB1, hK1⟩))
    gi_wp2_with ((refine ⟨trivial, fun _ => by omega, ?_⟩; gi_at_call 27; refine (CallsIn.inRound l (callsIn_wide.2 (num_Zig.calls _ _ _ Hz.out))).mono ?_; rintro e wz ⟨rfl, ⟨mz, rfl⟩⟩))
    gi_wp2_with ((refine ⟨trivial, fun _ => by omega, ?_⟩; gi_at_call 11; refine (CallsIn.inRound l (callsIn_wide.2 (num_PutVar.calls 10 _ v1 (runFormX pre ++ leb (x.1.2 - 1)) _ _ w (w1.drewN mz) (pw_below_drewN hB1 mz) (Kd.R_drewN hR1 mz) H2.out))).mono ?_; clear H2; rintro e w2 ⟨v2, rfl, hR2, hB2, hK2⟩; obtain ⟨A2, c2, rfl⟩ := Kd.R_slice hR2; have hsame := put_same hok hsz hK1 hK2; have hbx2 : w2.heap[w.heap.size]? = some (.cells #[v] 23 (0, 0)) := (hsame w.heap.size (by omega) (fun e => by have := hok _ e.symm; omega)).trans hbx; have hbc2 := (cell_of_box_lp hbx2).1; have hbf2 := (cell_of_box_lp hbx2).2))
    have hty := Kd.R_typed hR0
    have hle2 : W.heap.size ≤ w2.heap.size := Nat.le_trans hK1.1 hK2.1
    have hSame : Same (w.heap.size + 2) w.heap.size W (w2.setCell ⟨w.heap.size, 0, none⟩ (.slice A2 (runFormX (pre ++ [x])).length c2)) := fun k hk hne =>
      (Below.heap_setCell w2 _ _ k hne).trans (hsame k (by omega) (fun e => by have := hok _ e.symm; omega))
    have hokk : ∀ k, ((some k = v.ownBlock ∨ W.heap.size ≤ k) ∨ (w1.drewN mz).heap.size ≤ k) → w.heap.size + 2 ≤ k := fun k hk => by
      rcases hk with (h | h) | h
      · exact hok _ h.symm
      · omega
      · exact Nat.le_trans hsz (Nat.le_trans (show W.heap.size ≤ (w1.drewN mz).heap.size from hK1.1) h)
    have hR3 := Kd.R_far (p := ⟨w.heap.size, 0, none⟩) hR2 (fun k hk (e : k = w.heap.size) => absurd (hokk k hk) (by rw [e]; omega)) (.slice A2 (runFormX (pre ++ [x])).length c2)
    obtain ⟨ho3, hk3⟩ := R_raise hR3
    refine ⟨⟨Nat.le_trans hle2 (by simp), fun k o hk ho => ?_⟩, hSame, ⟨_, ?_, ho3, fun k hk => ?_⟩, (hSame.cell ⟨by omega, by omega⟩).trans hc1, hB2.setCell (p := ⟨w.heap.size, 0, none⟩) (Nat.le_refl _) _⟩
    · have hlk : k < W.heap.size := (Array.getElem?_eq_some_iff.1 hk).1
      have hne : k ≠ w.heap.size := fun e => by rw [e, show W.heap[w.heap.size]? = _ from hbx] at hk; cases hk; cases ho
      rw [Below.heap_setCell w2 _ _ k hne, hsame k hlk (fun e => by obtain ⟨cs, hcs⟩ := hty k e.symm; rw [hcs] at hk; cases hk; cases ho)]
      exact hk
    · exact (blk_set hbx2 0 _).trans (by rfl)
    · exact hokk _ (hk3 k hk)
  case done =>
    rintro D ys W hD hys ⟨⟨v, hbx, hrow, hok⟩, hc1, hB⟩ hK
    have hbc := hbx.cell
    gi_wp2
    have hys2 : runFormX ys = runForm (runsOf zs) := by unfold runFormX; rw [hys]
    refine ⟨by simp, .inl ⟨_, _, rfl, run_takeDeferred hK, ?_⟩⟩
    refine ⟨_, results_tmp2 rfl _ _ _, v, rfl, ?_, hB.trans (belowK_b (w := w) (Nat.le_refl _) W D _ _ (by simp at hD; omega) hK rfl rfl)⟩
    rw [← hys2]
    exact Kd.R_of_own (h1 := fun _ => rfl) (ownsRow_putObj hrow _ hK rfl) (fun _ _ => trivial)
  case stop =>
    rintro D c pre W _ _ h _
    exact h.elim
def runs_Put.f (l0 : List Int) : Option (List Int × Int) := if l0.length > 65536 then (if l0.length ≤ 9223372036854775807 then some ([], 12) else none) else if ∀ x ∈ l0, -9223372036854775808 ≤ x ∧ x ≤ 9223372036854775807 then some (runForm (runsOf l0), 0) else none
set_option maxHeartbeats 4000000 in
theorem put_long (A0 : Option Addr) (c0 n : Nat) (w : World) (hn : 65536 < n) (hm : n ≤ 9223372036854775807) :
    Calls Tryd.prog 43 #[.slice A0 n c0] w fun e w' => e = .returned (.tuple #[.slice none 0 0, .int .i64 12]) ∧ w = w' := by
  have hd : decide (65536 < n) = true := decide_eq_true hn
  go_enter Tryd.func43, Tryd.ntmps43
  go_wp2
  go_ret2
  exact ⟨rfl, rfl⟩
theorem runs_Put.calls (A0 : Option Addr) (c0 : Nat) (l0 : List Int) (r1 : List Int) (r2 : Int) (w : World) (hr0 : Kd.C (Kd.int .i64) w A0 l0.length l0) (hc0 : l0.length ≤ c0) (h : runs_Put.f l0 = some (r1, r2)) :
    Calls Tryd.prog 43 #[.slice A0 l0.length c0] w fun e w' => ∃ v0_ : Value, e = .returned (.tuple #[v0_, .int .i64 r2]) ∧ Kd.R (Kd.int .u8) 5 w' w.heap.size (fun _ => True) v0_ r1 ∧ Below w.heap.size w w' := by
  unfold runs_Put.f at h
  by_cases hl : l0.length > 65536
  · rw [if_pos hl] at h
    by_cases hm : l0.length ≤ 9223372036854775807
    · rw [if_pos hm] at h
      simp only [Option.some.injEq, Prod.mk.injEq] at h
      obtain ⟨rfl, rfl⟩ := h
      refine (put_long A0 c0 l0.length w hl hm).mono ?_
      rintro e w' ⟨rfl, rfl⟩
      exact ⟨_, rfl, Kd.R_nil _ _ _ _ _, Below.refl _ _⟩
    · rw [if_neg hm] at h; cases h
  · rw [if_neg hl] at h
    by_cases hw : ∀ x ∈ l0, -9223372036854775808 ≤ x ∧ x ≤ 9223372036854775807
    · rw [if_pos hw] at h
      simp only [Option.some.injEq, Prod.mk.injEq] at h
      obtain ⟨rfl, rfl⟩ := h
      exact callsIn_wide.1 (put_in 3 (by omega) A0 c0 l0 (by omega) hw w (Ints.of_C hr0 _ (Nat.le_refl _)))
    · rw [if_neg hw] at h; cases h
end

/-! ### estreatlaw09_awake: function 40 -/
def estreatlaw09_awake.f (k : Nat)  : Option (Bool) := (runs_Put.f (([5, 5, 5] : List Int))).bind fun bt114 => ((estreatref01_Same.f k bt114.1 (([2, 10] : List Int))).bind fun t121 => (if t121 = true then (some (bt114.2 == 0)) else (some false)))
theorem estreatlaw09_awake.mono : ∀ k, LeO (estreatlaw09_awake.f k ) (estreatlaw09_awake.f (k + 1) ) := by
  intro  k
  unfold estreatlaw09_awake.f
  repeat' first
      | (with_reducible exact estreatref01_Same.mono _ _ _)
      | (with_reducible exact LeO.refl _)
      | (with_reducible exact LeO.none _)
      | (with_reducible refine LeO.ite ?_ ?_)
      | (with_reducible refine LeO.bind ?_ (fun _ => ?_))
      | exact estreatref01_Same.mono _ _ _
      | exact LeO.none _
      | refine LeO.ite ?_ ?_
      | refine LeO.bind ?_ (fun _ => ?_)
set_option maxHeartbeats 8000000 in
set_option maxRecDepth 100000 in
theorem estreatlaw09_awake.calls (k : Nat)  (r : Bool) (w : World) (h : estreatlaw09_awake.f k  = some r) :
    Calls Tryd.prog 40 #[] w fun e w' => e = .returned (.bool r) ∧ Below w.heap.size w w' := by
  have HB := Aside0.mk (Below.refl w.heap.size w)
  have H : ((runs_Put.f (([5, 5, 5] : List Int))).bind fun bt114 => ((estreatref01_Same.f k bt114.1 (([2, 10] : List Int))).bind fun t121 => (if t121 = true then (some (bt114.2 == 0)) else (some false)))) = some r := h
  clear h
  obtain ⟨y111, hy111⟩ : ∃ y_ : List Int, y_ = (([5, 5, 5] : List Int)) := ⟨_, rfl⟩
  replace H : ((runs_Put.f y111).bind fun bt114 => ((estreatref01_Same.f k bt114.1 (([2, 10] : List Int))).bind fun t121 => (if t121 = true then (some (bt114.2 == 0)) else (some false)))) = some r := by first | (rw [hy111]; with_reducible exact H) | (have H2_ := (Option.bind_some _ _).symm.trans H; rw [hy111]; with_reducible exact H2_) | (have H2_ := (Option.bind_some _ _).symm.trans H; with_reducible exact H2_) | with_reducible exact H | (rw [hy111]; exact H) | exact H
  have Ny111 := Aside0.mk hy111
  clear hy111
  replace H := Option.bind_eq_some_iff.mp H
  obtain ⟨⟨t114, t115⟩, A10, H⟩ := H
  replace H : ((estreatref01_Same.f k t114 (([2, 10] : List Int))).bind fun t121 => (if t121 = true then (some (t115 == 0)) else (some false))) = some r := H
  have A1 := Aside0.mk A10
  clear A10
  obtain ⟨y118, hy118⟩ : ∃ y_ : List Int, y_ = (([2, 10] : List Int)) := ⟨_, rfl⟩
  replace H : ((estreatref01_Same.f k t114 y118).bind fun t121 => (if t121 = true then (some (t115 == 0)) else (some false))) = some r := by first | (rw [hy118]; with_reducible exact H) | (have H2_ := (Option.bind_some _ _).symm.trans H; rw [hy118]; with_reducible exact H2_) | (have H2_ := (Option.bind_some _ _).symm.trans H; with_reducible exact H2_) | with_reducible exact H | (rw [hy118]; exact H) | exact H
  have Ny118 := Aside0.mk hy118
  clear hy118
  replace H := Option.bind_eq_some_iff.mp H
  obtain ⟨t121, A20, H⟩ := H
  replace H : (if t121 = true then (some (t115 == 0)) else (some false)) = some r := H
  have A2 := Aside0.mk A20
  clear A20
  by_cases c3 : t121 = true
  · subst c3
    have H1 : (some (t115 == 0)) = some r := by rw [if_pos rfl] at H; exact H
    clear H
    have H := H1
    clear H1
    obtain rfl := Option.some.inj H
    go_enter Tryd.func40, Tryd.ntmps40
    go_wp2_with (first | ((with_reducible refine gate_dst (N := 4) rfl ?_); refine Kd.R_lit (Kd.int .i64) _ 2 ?hg (N := 4) ?hd (xs := ([5, 5, 5] : List Int)) (inner := [.int .i64 5, .int .i64 5, .int .i64 5]) (ok := fun _ => True) (okp := fun _ => True) ?hr ?hp (fun _ hk => hk) trivial (Below.refl _ _) (Nat.le_refl _) (by simp) ?_; (case hd => rfl); (case hg => rfl); (case hr => first | (go_simp; done) | (go_simp; rfl)); (case hp => exact (Reps.one (show Kd.M (Kd.int .i64) _ _ _ 5 [.int .i64 5] from rfl) (Reps.one (show Kd.M (Kd.int .i64) _ _ _ 5 [.int .i64 5] from rfl) (Reps.one (show Kd.M (Kd.int .i64) _ _ _ 5 [.int .i64 5] from rfl) (Reps.none _ _))))); intro v112 w4 ho5 hb hg_ hnew_; clear hg_ hnew_; (first | rw [← Ny111.out] at ho5 | (simp only [Int.reduceToNat] at ho5; rw [← Ny111.out] at ho5)); have n0_ := Aside0.mk (Kd.R_lower ho5 (below_size (by repeat (first | (with_reducible first | exact HB.out | apply below_alloc | apply pw_below_drewN | apply below_drew1) | exact HB.out)))); have n1_ := Aside0.mk (below_step (by repeat (first | (with_reducible first | exact HB.out | apply below_alloc | apply pw_below_drewN | apply below_drew1) | exact HB.out)) hb); clear HB; have HO113 := n0_; have HB := n1_; clear n0_ n1_; clear hb ho5; obtain ⟨Ao6, co6, eo6⟩ := Kd.R_slice HO113.out; subst eo6) | ((with_reducible refine gate_callee (f := 43) rfl ?_); refine goesL_ (some 5) rfl rfl Tryd.func43 (by kernel_rfl) rfl #[.slice Ao6 y111.length co6] rfl (by (try simp only [List.map_toArray, List.map_cons, List.map_nil]); first | done | rfl | (simp only [List.length_drop, List.length_take]; rfl)) ?_; (with_reducible refine (runs_Put.calls _ _ y111 t114 t115 _ ?side1 ?side2 A1.out).mono ?_); (case side1 => repeat (first | exact (Kd.R_reads' HO113.out).2.2 | (with_reducible refine Kd.C_alloc ?_ _) | (with_reducible refine Kd.C_drewN ?_ _) | (with_reducible refine Kd.C_drew ?_))); (case side2 => exact (Kd.R_reads' HO113.out).2.1); rintro e w7 ⟨v116, rfl, ho0, hb⟩; refine ⟨_, rfl, ?_⟩; have n0_ := Aside0.mk (Kd.R_below (by (with_reducible repeat (first | apply Kd.R_alloc | apply Kd.R_drewN | apply Kd.R_drew)); exact HO113.out) hb); have n1_ := Aside0.mk (Kd.R_lower ho0 (below_size (by repeat (first | (with_reducible first | exact HB.out | apply below_alloc | apply pw_below_drewN | apply below_drew1) | exact HB.out)))); have n2_ := Aside0.mk (below_step (by repeat (first | (with_reducible first | exact HB.out | apply below_alloc | apply pw_below_drewN | apply below_drew1) | exact HB.out)) hb); clear HO113; clear HB; have HO113 := n0_; have HO117 := n1_; have HB := n2_; clear n0_ n1_ n2_; (try clear hb); (try clear hb2); (try clear hk); (try clear hi); (try clear ho0)) | ((with_reducible refine gate_dst (N := 9) rfl ?_); refine Kd.R_lit (Kd.int .u8) _ 5 ?hg (N := 9) ?hd (xs := ([2, 10] : List Int)) (inner := [.int .u8 2, .int .u8 10]) (ok := fun _ => True) (okp := fun _ => True) ?hr ?hp (fun _ hk => hk) trivial (Below.refl _ _) (Nat.le_refl _) (by simp) ?_; (case hd => rfl); (case hg => rfl); (case hr => first | (go_simp; done) | (go_simp; rfl)); (case hp => exact (Reps.one (show Kd.M (Kd.int .u8) _ _ _ 2 [.int .u8 2] from rfl) (Reps.one (show Kd.M (Kd.int .u8) _ _ _ 10 [.int .u8 10] from rfl) (Reps.none _ _)))); intro v119 w8 ho9 hb hg_ hnew_; clear hg_ hnew_; (first | rw [← Ny118.out] at ho9 | (simp only [Int.reduceToNat] at ho9; rw [← Ny118.out] at ho9)); have n0_ := Aside0.mk (Kd.R_below (by (with_reducible repeat (first | apply Kd.R_alloc | apply Kd.R_drewN | apply Kd.R_drew)); exact HO113.out) hb); have n1_ := Aside0.mk (Kd.R_elder' (by (with_reducible repeat (first | apply Kd.R_alloc | apply Kd.R_drewN | apply Kd.R_drew)); exact HO117.out) (Kd.R_base ho9) hb); have n2_ := Aside0.mk (Kd.R_lower (Kd.R_new' ho9 (Kd.R_lt (by (with_reducible repeat (first | apply Kd.R_alloc | apply Kd.R_drewN | apply Kd.R_drew)); exact HO117.out))) (below_size (by repeat (first | (with_reducible first | exact HB.out | apply below_alloc | apply pw_below_drewN | apply below_drew1) | exact HB.out)))); have n3_ := Aside0.mk (below_step (by repeat (first | (with_reducible first | exact HB.out | apply below_alloc | apply pw_below_drewN | apply below_drew1) | exact HB.out)) hb); clear HO113; clear HO117; clear HB; have HO113 := n0_; have HO117 := n1_; have HO120 := n2_; have HB := n3_; clear n0_ n1_ n2_ n3_; clear hb ho9; obtain ⟨Ao10, co10, eo10⟩ := Kd.R_slice HO117.out; subst eo10; obtain ⟨Ao11, co11, eo11⟩ := Kd.R_slice HO120.out; subst eo11) | ((with_reducible refine gate_callee (f := 25) rfl ?_); refine goesL_ (some 10) rfl rfl Tryd.func25 (by kernel_rfl) rfl #[.slice Ao10 t114.length co10, .slice Ao11 y118.length co11] rfl (by (try simp only [List.map_toArray, List.map_cons, List.map_nil]); first | done | rfl | (simp only [List.length_drop, List.length_take]; rfl)) ?_; (with_reducible refine (estreatref01_Same.calls k _ _ t114 _ _ y118 true _ ?side1 ?side2 ?side3 ?side4 A2.out).mono ?_); (case side1 => repeat (first | exact (Kd.R_reads' HO117.out).2.2 | (with_reducible refine Kd.C_alloc ?_ _) | (with_reducible refine Kd.C_drewN ?_ _) | (with_reducible refine Kd.C_drew ?_))); (case side2 => exact (Kd.R_reads' HO117.out).2.1); (case side3 => repeat (first | exact (Kd.R_reads' HO120.out).2.2 | (with_reducible refine Kd.C_alloc ?_ _) | (with_reducible refine Kd.C_drewN ?_ _) | (with_reducible refine Kd.C_drew ?_))); (case side4 => exact (Kd.R_reads' HO120.out).2.1); rintro e w' ⟨rfl, ⟨nd, rfl⟩⟩; refine ⟨_, rfl, ?_⟩))
    go_ret
    exact ⟨by first | rfl | (simp [errW_none, errW_some] <;> rfl) | (simp [*, errW_none, errW_some] <;> rfl), by repeat (first | (with_reducible first | exact HB.out | apply below_alloc | apply pw_below_drewN | apply below_drew1) | exact HB.out)⟩
  · replace c3 := Bool.eq_false_iff.mpr c3
    subst c3
    have H1 : (some false) = some r := by rw [if_neg (show ¬ (false = true) by decide)] at H; exact H
    clear H
    have H := H1
    clear H1
    obtain rfl := Option.some.inj H
    go_enter Tryd.func40, Tryd.ntmps40
    go_wp2_with (first | ((with_reducible refine gate_dst (N := 4) rfl ?_); refine Kd.R_lit (Kd.int .i64) _ 2 ?hg (N := 4) ?hd (xs := ([5, 5, 5] : List Int)) (inner := [.int .i64 5, .int .i64 5, .int .i64 5]) (ok := fun _ => True) (okp := fun _ => True) ?hr ?hp (fun _ hk => hk) trivial (Below.refl _ _) (Nat.le_refl _) (by simp) ?_; (case hd => rfl); (case hg => rfl); (case hr => first | (go_simp; done) | (go_simp; rfl)); (case hp => exact (Reps.one (show Kd.M (Kd.int .i64) _ _ _ 5 [.int .i64 5] from rfl) (Reps.one (show Kd.M (Kd.int .i64) _ _ _ 5 [.int .i64 5] from rfl) (Reps.one (show Kd.M (Kd.int .i64) _ _ _ 5 [.int .i64 5] from rfl) (Reps.none _ _))))); intro v112 w12 ho13 hb hg_ hnew_; clear hg_ hnew_; (first | rw [← Ny111.out] at ho13 | (simp only [Int.reduceToNat] at ho13; rw [← Ny111.out] at ho13)); have n0_ := Aside0.mk (Kd.R_lower ho13 (below_size (by repeat (first | (with_reducible first | exact HB.out | apply below_alloc | apply pw_below_drewN | apply below_drew1) | exact HB.out)))); have n1_ := Aside0.mk (below_step (by repeat (first | (with_reducible first | exact HB.out | apply below_alloc | apply pw_below_drewN | apply below_drew1) | exact HB.out)) hb); clear HB; have HO113 := n0_; have HB := n1_; clear n0_ n1_; clear hb ho13; obtain ⟨Ao14, co14, eo14⟩ := Kd.R_slice HO113.out; subst eo14) | ((with_reducible refine gate_callee (f := 43) rfl ?_); refine goesL_ (some 5) rfl rfl Tryd.func43 (by kernel_rfl) rfl #[.slice Ao14 y111.length co14] rfl (by (try simp only [List.map_toArray, List.map_cons, List.map_nil]); first | done | rfl | (simp only [List.length_drop, List.length_take]; rfl)) ?_; (with_reducible refine (runs_Put.calls _ _ y111 t114 t115 _ ?side1 ?side2 A1.out).mono ?_); (case side1 => repeat (first | exact (Kd.R_reads' HO113.out).2.2 | (with_reducible refine Kd.C_alloc ?_ _) | (with_reducible refine Kd.C_drewN ?_ _) | (with_reducible refine Kd.C_drew ?_))); (case side2 => exact (Kd.R_reads' HO113.out).2.1); rintro e w15 ⟨v116, rfl, ho0, hb⟩; refine ⟨_, rfl, ?_⟩; have n0_ := Aside0.mk (Kd.R_below (by (with_reducible repeat (first | apply Kd.R_alloc | apply Kd.R_drewN | apply Kd.R_drew)); exact HO113.out) hb); have n1_ := Aside0.mk (Kd.R_lower ho0 (below_size (by repeat (first | (with_reducible first | exact HB.out | apply below_alloc | apply pw_below_drewN | apply below_drew1) | exact HB.out)))); have n2_ := Aside0.mk (below_step (by repeat (first | (with_reducible first | exact HB.out | apply below_alloc | apply pw_below_drewN | apply below_drew1) | exact HB.out)) hb); clear HO113; clear HB; have HO113 := n0_; have HO117 := n1_; have HB := n2_; clear n0_ n1_ n2_; (try clear hb); (try clear hb2); (try clear hk); (try clear hi); (try clear ho0)) | ((with_reducible refine gate_dst (N := 9) rfl ?_); refine Kd.R_lit (Kd.int .u8) _ 5 ?hg (N := 9) ?hd (xs := ([2, 10] : List Int)) (inner := [.int .u8 2, .int .u8 10]) (ok := fun _ => True) (okp := fun _ => True) ?hr ?hp (fun _ hk => hk) trivial (Below.refl _ _) (Nat.le_refl _) (by simp) ?_; (case hd => rfl); (case hg => rfl); (case hr => first | (go_simp; done) | (go_simp; rfl)); (case hp => exact (Reps.one (show Kd.M (Kd.int .u8) _ _ _ 2 [.int .u8 2] from rfl) (Reps.one (show Kd.M (Kd.int .u8) _ _ _ 10 [.int .u8 10] from rfl) (Reps.none _ _)))); intro v119 w16 ho17 hb hg_ hnew_; clear hg_ hnew_; (first | rw [← Ny118.out] at ho17 | (simp only [Int.reduceToNat] at ho17; rw [← Ny118.out] at ho17)); have n0_ := Aside0.mk (Kd.R_below (by (with_reducible repeat (first | apply Kd.R_alloc | apply Kd.R_drewN | apply Kd.R_drew)); exact HO113.out) hb); have n1_ := Aside0.mk (Kd.R_elder' (by (with_reducible repeat (first | apply Kd.R_alloc | apply Kd.R_drewN | apply Kd.R_drew)); exact HO117.out) (Kd.R_base ho17) hb); have n2_ := Aside0.mk (Kd.R_lower (Kd.R_new' ho17 (Kd.R_lt (by (with_reducible repeat (first | apply Kd.R_alloc | apply Kd.R_drewN | apply Kd.R_drew)); exact HO117.out))) (below_size (by repeat (first | (with_reducible first | exact HB.out | apply below_alloc | apply pw_below_drewN | apply below_drew1) | exact HB.out)))); have n3_ := Aside0.mk (below_step (by repeat (first | (with_reducible first | exact HB.out | apply below_alloc | apply pw_below_drewN | apply below_drew1) | exact HB.out)) hb); clear HO113; clear HO117; clear HB; have HO113 := n0_; have HO117 := n1_; have HO120 := n2_; have HB := n3_; clear n0_ n1_ n2_ n3_; clear hb ho17; obtain ⟨Ao18, co18, eo18⟩ := Kd.R_slice HO117.out; subst eo18; obtain ⟨Ao19, co19, eo19⟩ := Kd.R_slice HO120.out; subst eo19) | ((with_reducible refine gate_callee (f := 25) rfl ?_); refine goesL_ (some 10) rfl rfl Tryd.func25 (by kernel_rfl) rfl #[.slice Ao18 t114.length co18, .slice Ao19 y118.length co19] rfl (by (try simp only [List.map_toArray, List.map_cons, List.map_nil]); first | done | rfl | (simp only [List.length_drop, List.length_take]; rfl)) ?_; (with_reducible refine (estreatref01_Same.calls k _ _ t114 _ _ y118 false _ ?side1 ?side2 ?side3 ?side4 A2.out).mono ?_); (case side1 => repeat (first | exact (Kd.R_reads' HO117.out).2.2 | (with_reducible refine Kd.C_alloc ?_ _) | (with_reducible refine Kd.C_drewN ?_ _) | (with_reducible refine Kd.C_drew ?_))); (case side2 => exact (Kd.R_reads' HO117.out).2.1); (case side3 => repeat (first | exact (Kd.R_reads' HO120.out).2.2 | (with_reducible refine Kd.C_alloc ?_ _) | (with_reducible refine Kd.C_drewN ?_ _) | (with_reducible refine Kd.C_drew ?_))); (case side4 => exact (Kd.R_reads' HO120.out).2.1); rintro e w' ⟨rfl, ⟨nd, rfl⟩⟩; refine ⟨_, rfl, ?_⟩))
    go_ret
    exact ⟨by first | rfl | (simp [errW_none, errW_some] <;> rfl) | (simp [*, errW_none, errW_some] <;> rfl), by repeat (first | (with_reducible first | exact HB.out | apply below_alloc | apply pw_below_drewN | apply below_drew1) | exact HB.out)⟩

/-! ### bytes_Clone: function 48 -/
def bytes_Clone.f (l0 : List Int) : Option (List Int) := if l0.length * 1 ≤ 140737488355328 then some l0 else none
theorem bytes_Clone.info : (Tryd.prog.info? 5).map (fun i => (i.zero, i.size, i.bytes)) = some (some (.int .u8 0), 1, 1) := by kernel_rfl
theorem bytes_Clone.under : Tryd.prog.underlying 23 = some (.slice 5) := by kernel_rfl
set_option maxHeartbeats 4000000 in
theorem bytes_Clone.calls (A0 : Option Addr) (c0 : Nat) (l0 : List Int) (r : List Int) (w : World) (hr0 : (Kd.int .u8).C w A0 l0.length l0) (hc0 : l0.length ≤ c0) (h : bytes_Clone.f l0 = some r) :
    Calls Tryd.prog 48 #[.slice A0 l0.length c0] w fun e w' => ∃ v0_ : Value, e = .returned v0_ ∧ (Kd.int .u8).R 5 w' w.heap.size (fun _ => True) v0_ r ∧ Below w.heap.size w w' := by
  unfold bytes_Clone.f at h
  by_cases hl : l0.length * 1 ≤ 140737488355328
  · rw [if_pos hl] at h
    obtain rfl := Option.some.inj h
    cases A0 with
    | none =>
      have h0 : l0 = [] := by
        rcases l0 with _ | ⟨x, l⟩
        · rfl
        · obtain ⟨ad, e, _⟩ := hr0.2.2 (by simp)
          cases e
      subst h0
      have e1 : ∀ w, (binOp BinOp.eql 23 (.slice none ([] : List Int).length c0) (.slice none 0 0)).run Tryd.prog w = .ok (.bool true) w := fun w => by kernel_rfl
      simp only [List.length_nil] at e1 ⊢
      go_enter Tryd.func48, Tryd.ntmps48
      go_wp2
      go_ret
      exact ⟨_, rfl, Kd.R_nil _ _ _ _ _, Below.refl _ _⟩
    | some ad =>
      have e1 : ∀ w, (binOp BinOp.eql 23 (.slice (some ad) l0.length c0) (.slice none 0 0)).run Tryd.prog w = .ok (.bool false) w := fun w => by kernel_rfl
      have hB1 : Below w.heap.size w (w.alloc (.cells #[] 5)) := below_alloc (Below.refl _ _) _
      have hR1 : (Kd.int .u8).R 5 (w.alloc (.cells #[] 5)) w.heap.size (fun _ => True) (.slice (some ⟨w.heap.size, 0, none⟩) 0 0) [] :=
        Kd.R_of_own (h1 := fun _ => rfl) (by simpa [encs] using World.ownsRow_lit (base := w.heap.size) (e := 5) (size := 1) w #[] 0 (Nat.le_refl _) (by decide) (by simp)) (fun _ _ => trivial)
      have hC1 := Kd.C_below hr0 hB1
      go_enter Tryd.func48, Tryd.ntmps48
      go_wp2_with ((with_reducible refine gate_builtin (b := .append) (xs := #[.tmp 5, .tmp 6]) rfl ?_); at_builtin; refine Kd.R_append_rows (Kd.int .u8) (w0 := w) w.heap.size rfl (.tmp 5) (.tmp 6) 23 5 (.int .u8 0) 1 rfl bytes_Clone.under bytes_Clone.info rfl (by decide) (by omega) _ [] l0 _ _ _ (fun _ => True) (fun _ => False) rfl rfl hR1 hC1 (fun _ _ h => h) (fun _ h => h.elim) (fun _ _ => trivial) hB1 (by simp) (by simpa using hl) ?_; intro v1 w1 ho hb hg hat)
      go_ret
      exact ⟨_, rfl, by simpa using ho, hb⟩
  · rw [if_neg hl] at h; cases h

/-- What a num.Reader's state leads to beside its own block: its bytes' block and its fault's block, told by their types. -/
def NeRd (W : World) (g : Nat) (x : Option Nat) : Prop := some g ≠ x ∧ ∀ F cs t, (t = 79 ∨ t = 5) → W.heap[F]? = some (.cells cs t (0, 0)) → some F ≠ x
/-- An error's value: none, or a fault at a block of its own. -/
def FaultAt (w0 W : World) (ev : Value) (e at_ : Int) : Prop :=
  (e = 0 ∧ at_ = 0 ∧ ev = .nilIface) ∨ (e ≠ 0 ∧ ∃ F, ev = .iface 74 (.pointer (some ⟨F, 0, none⟩)) ∧ W.heap[F]? = some (.cells #[.int .i64 at_, .iface 30 (.int .i64 e)] 79 (0, 0)) ∧ w0.heap.size ≤ F)
theorem FaultAt.same {w0 W W1 : World} {ev : Value} {e at_ : Int} (h : FaultAt w0 W ev e at_) (hk : ∀ (F : Nat) (cs : Array Value), W.heap[F]? = some (.cells cs 79 (0, 0)) → W1.heap[F]? = W.heap[F]?) : FaultAt w0 W1 ev e at_ := by
  rcases h with h | ⟨h0, F, h1, h2, h3⟩
  · exact .inl h
  · exact .inr ⟨h0, F, h1, (hk F _ h2).trans h2, h3⟩
/-- The variable of package errors that calls lead to is as the program's start left it. -/
def HG (w : World) : Prop := w.cell? ⟨0, 0, none⟩ = some (.iface 109 (.agg #[.pointer (some ⟨1, 69, none⟩)]))
theorem HG.heap {w W : World} (h : HG w) (hk : ∀ k, k < w.heap.size → W.heap[k]? = w.heap[k]?) : HG W := by
  have h0 : 0 < w.heap.size := Go.block_lt_of_cell (a := ⟨0, 0, none⟩) h
  unfold HG World.cell? at *
  rw [hk 0 h0]; exact h
theorem HG.below {w W : World} (hB : Below w.heap.size w W) (h : HG w) : HG W := h.heap (fun k hk => hB.block k hk)
/-- A num.Reader at block g of W. -/
def IsS71 (w0 W : World) (g : Nat) (f0 : List Int) (f1 : Int) (f2 : Int) (f3 : Int) : Prop :=
  ∃ A0 c0 ev, W.heap[g]? = some (.cells #[.slice A0 f0.length c0, .int .i64 f1, ev] 71 (0, 0)) ∧ w0.heap.size ≤ g ∧ (Kd.int .u8).R 5 W w0.heap.size (fun k => some k = (Value.slice A0 f0.length c0).ownBlock) (.slice A0 f0.length c0) f0 ∧ FaultAt w0 W ev f2 f3 ∧ HG w0
section
variable {w0 W : World} {g : Nat} {f0 : List Int} {f1 f2 f3 : Int}
theorem IsS71.same {W1 : World} (h : IsS71 w0 W g f0 f1 f2 f3) (hk : ∀ (k : Nat) (cs : Array Value) (t : Nat), (t = 71 ∧ k = g ∨ t = 79 ∨ t = 5) → W.heap[k]? = some (.cells cs t (0, 0)) → W1.heap[k]? = W.heap[k]?) : IsS71 w0 W1 g f0 f1 f2 f3 := by
  obtain ⟨A, c, ev, hb, hg, hr, hf, hG⟩ := h
  refine ⟨A, c, ev, (hk g _ _ (.inl ⟨rfl, rfl⟩) hb).trans hb, hg, ?_, hf.same (fun F cs hF => hk F cs _ (.inr (.inl rfl)) hF), hG⟩
  have hty := Kd.R_typed hr
  exact Kd.R_step hr (fun k ho hlt => by obtain ⟨cs, hcs⟩ := hty k ho.symm; exact hk k cs _ (.inr (.inr rfl)) hcs)
theorem IsS71.grown {W1 : World} {row : Option Nat} (h : IsS71 w0 W g f0 f1 f2 f3) (hw : W.grownBy W1 row) (hne : some g ≠ row ∧ ∀ F cs t, (t = 79 ∨ t = 5) → W.heap[F]? = some (.cells cs t (0, 0)) → some F ≠ row) : IsS71 w0 W1 g f0 f1 f2 f3 :=
  h.same (fun k cs t ht hc => hw.block k (blk_lt hc) (by
    rcases ht with ⟨_, rfl⟩ | ht
    · exact hne.1
    · exact hne.2 k cs t ht hc))
theorem IsS71.fresh (h : IsS71 w0 W g f0 f1 f2 f3) : ∀ k, W.heap.size ≤ k → k ≠ g := by
  obtain ⟨A, c, ev, hb, _⟩ := h
  exact Kd.freshB hb
theorem IsS71.kept {W1 : World} {S : Nat → Prop} (h : IsS71 w0 W g f0 f1 f2 f3) (hk : Kept W W1 S) (hne : ∀ k cs t, (t = 71 ∧ k = g ∨ t = 79 ∨ t = 5) → W.heap[k]? = some (.cells cs t (0, 0)) → ¬ S k) : IsS71 w0 W1 g f0 f1 f2 f3 :=
  h.same (fun k cs t ht hc => hk.2 k (blk_lt hc) (hne k cs t ht hc))
theorem IsS71.below {W1 : World} (h : IsS71 w0 W g f0 f1 f2 f3) (hw : Below W.heap.size W W1) : IsS71 w0 W1 g f0 f1 f2 f3 := h.same (fun k _ _ _ hc => hw.block k (blk_lt hc))
theorem IsS71.alloc (h : IsS71 w0 W g f0 f1 f2 f3) (o : Obj) : IsS71 w0 (W.alloc o) g f0 f1 f2 f3 := h.below (below_alloc (Below.refl _ _) o)
theorem IsS71.drewN (h : IsS71 w0 W g f0 f1 f2 f3) (m : Nat) : IsS71 w0 (W.drewN m) g f0 f1 f2 f3 := h.below (pw_below_drewN (Below.refl _ _) m)
theorem IsS71.drew (h : IsS71 w0 W g f0 f1 f2 f3) : IsS71 w0 W.drew g f0 f1 f2 f3 := h.below (below_drew1 (Below.refl _ _))
theorem IsS71.at_ {w' : World} {m : Nat} (hq : W.drewN m = w') (h : IsS71 w0 W g f0 f1 f2 f3) : IsS71 w0 w' g f0 f1 f2 f3 := by subst hq; exact IsS71.drewN h m
theorem IsS71.lt (h : IsS71 w0 W g f0 f1 f2 f3) : g < W.heap.size := by
  obtain ⟨A, c, ev, hb, _⟩ := h
  exact blk_lt hb
theorem IsS71.ge (h : IsS71 w0 W g f0 f1 f2 f3) : w0.heap.size ≤ g := by
  obtain ⟨A, c, ev, _, hg, _⟩ := h
  exact hg
theorem IsS71.ne_blk {a : Nat} {cs : Array Value} {t : TypeId} {fr : Nat × Nat} (h : IsS71 w0 W g f0 f1 f2 f3) (hb2 : W.heap[a]? = some (.cells cs t fr)) (ht : t ≠ 71) : g ≠ a := by
  obtain ⟨A, c, ev, hb, _⟩ := h
  rintro rfl
  rw [hb] at hb2
  injection hb2 with hb2
  injection hb2 with _ ht2
  exact ht ht2.symm
theorem IsS71.cellset (h : IsS71 w0 W g f0 f1 f2 f3) (j : Nat) (u : Value) : ∃ A0 c0 ev, (W.setCell ⟨g, j, none⟩ u).heap[g]? = some (.cells (#[.slice A0 f0.length c0, .int .i64 f1, ev].setIfInBounds j u) 71 (0, 0)) ∧ w0.heap.size ≤ g ∧ (Kd.int .u8).R 5 (W.setCell ⟨g, j, none⟩ u) w0.heap.size (fun k => some k = (Value.slice A0 f0.length c0).ownBlock) (.slice A0 f0.length c0) f0 ∧ FaultAt w0 (W.setCell ⟨g, j, none⟩ u) ev f2 f3 ∧ HG w0 := by
  obtain ⟨A, c, ev, hb, hg, hr, hf, hG⟩ := h
  have hne := Kd.R_ne hr hb (by decide)
  refine ⟨A, c, ev, blk_set hb j u, hg, Kd.R_far hr (fun k hk (e : k = g) => hne (by rw [← e]; exact hk)) u, hf.same (fun F cs hF => Below.heap_setCell W ⟨g, j, none⟩ u F (fun e => ?_)), hG⟩
  rw [show F = g from e, hb] at hF
  injection hF with hF
  injection hF with _ ht
  exact absurd ht (by decide)
theorem IsS71.set_1 (h : IsS71 w0 W g f0 f1 f2 f3) (x : Int) : IsS71 w0 (W.setCell ⟨g, 1, none⟩ (.int .i64 x)) g f0 x f2 f3 := by
  obtain ⟨A, c, ev, hb, hg, hr, hf, hG⟩ := h.cellset 1 (.int .i64 x)
  exact ⟨A, c, ev, by simpa using hb, hg, hr, hf, hG⟩
theorem IsS71.fail (h : IsS71 w0 W g f0 f1 f2 f3) {e : Int} (he : e ≠ 0) (at_ : Int) : IsS71 w0 ((W.setCell ⟨g, 2, none⟩ (.iface 74 (.pointer (some ⟨W.heap.size, 0, none⟩)))).alloc (.cells #[.int .i64 at_, .iface 30 (.int .i64 e)] 79)) g f0 f1 e at_ := by
  have hlt := h.lt
  obtain ⟨A, c, ev, hb, hg, hr, hf, hG⟩ := h.cellset 2 (.iface 74 (.pointer (some ⟨W.heap.size, 0, none⟩)))
  refine ⟨A, c, _, blk_below hb (below_alloc (Below.refl _ _) _), hg, Kd.R_below hr (below_alloc (Below.refl _ _) _), .inr ⟨he, W.heap.size, by simp, ?_, by omega⟩, hG⟩
  have := heap_alloc_new (W.setCell ⟨g, 2, none⟩ (.iface 74 (.pointer (some ⟨W.heap.size, 0, none⟩)))) (.cells #[.int .i64 at_, .iface 30 (.int .i64 e)] 79)
  simpa using this
variable {α : Type} {d : Kd α} {e : Nat} {base : Nat} {ok : Nat → Prop} {v : Value} {xs : List α}
theorem IsS71.own_neN (h : IsS71 w0 W g f0 f1 f2 f3) (ho : Kd.N d e W base ok v xs) (ht : e ≠ 71 ∧ e ≠ 79 ∧ e ≠ 5) : NeRd W g v.ownBlock := by
  obtain ⟨A, c, ev, hb, _⟩ := h
  refine ⟨Kd.N_ne ho hb ht.1, ?_⟩
  rintro F cs t (rfl | rfl) hF
  · exact Kd.N_ne ho hF ht.2.1
  · exact Kd.N_ne ho hF ht.2.2
theorem IsS71.own_ne (h : IsS71 w0 W g f0 f1 f2 f3) (ho : Kd.R d e W base ok v xs) (ht : e ≠ 71 ∧ e ≠ 79 ∧ e ≠ 5) : NeRd W g v.ownBlock := by
  obtain ⟨A, c, ev, hb, _⟩ := h
  refine ⟨Kd.R_ne ho hb ht.1, ?_⟩
  rintro F cs t (rfl | rfl) hF
  · exact Kd.R_ne ho hF ht.2.1
  · exact Kd.R_ne ho hF ht.2.2
theorem IsS71.apart (h : IsS71 w0 W g f0 f1 f2 f3) (ho : Kd.R d e W base ok v xs) (ht : ∀ q, q ∈ e :: d.E → q ≠ 71) : Kd.R d e W base (fun k => ok k ∧ k ≠ g) v xs := by
  obtain ⟨A, c, ev, hb, _⟩ := h
  exact Kd.R_types ho hb ht
theorem IsS71.own_neQ (h : IsS71 w0 W g f0 f1 f2 f3) (ho : Kd.Q d e W base ok v xs) (ht : e ≠ 71 ∧ e ≠ 79 ∧ e ≠ 5) : NeRd W g v.ownBlock := by
  obtain ⟨A, c, ev, hb, _⟩ := h
  refine ⟨Kd.Q_ne ho hb ht.1, ?_⟩
  rintro F cs t (rfl | rfl) hF
  · exact Kd.Q_ne ho hF ht.2.1
  · exact Kd.Q_ne ho hF ht.2.2
theorem IsS71.apartQ (h : IsS71 w0 W g f0 f1 f2 f3) (ho : Kd.Q d e W base ok v xs) (ht : ∀ q, q ∈ e :: d.E → q ≠ 71) : Kd.Q d e W base (fun k => ok k ∧ k ≠ g) v xs := by
  obtain ⟨A, c, ev, hb, _⟩ := h
  exact Kd.Q_types ho hb ht
theorem IsS71.own_neS (h : IsS71 w0 W g f0 f1 f2 f3) (ho : Kd.S d e W base ok v xs) (ht : e ≠ 71 ∧ e ≠ 79 ∧ e ≠ 5) : NeRd W g v.ownBlock := by
  obtain ⟨A, c, ev, hb, _⟩ := h
  refine ⟨Kd.S_ne ho hb ht.1, ?_⟩
  rintro F cs t (rfl | rfl) hF
  · exact Kd.S_ne ho hF ht.2.1
  · exact Kd.S_ne ho hF ht.2.2
theorem IsS71.apartS (h : IsS71 w0 W g f0 f1 f2 f3) (ho : Kd.S d e W base ok v xs) (ht : ∀ q, q ∈ e :: d.E → q ≠ 71) : Kd.S d e W base (fun k => ok k ∧ k ≠ g) v xs := by
  obtain ⟨A, c, ev, hb, _⟩ := h
  exact Kd.S_types ho hb ht
end


/-! ### num_NewReader: function 13 -/
def num_NewReader.f (l0 : List Int) : Option (List Int × Int × Int × Int) := if l0.length * 1 ≤ 140737488355328 then some (l0, 0, 0, 0) else none
set_option maxHeartbeats 4000000 in
theorem num_NewReader.calls (A0 : Option Addr) (c0 : Nat) (l0 : List Int) (r1 : List Int) (r2 : Int) (r3 : Int) (r4 : Int) (w0 w : World) (hB : Below w0.heap.size w0 w) (hr0 : (Kd.int .u8).C w A0 l0.length l0) (hc0 : l0.length ≤ c0) (hG : HG w0) (h : num_NewReader.f l0 = some (r1, r2, r3, r4)) :
    Calls Tryd.prog 13 #[.slice A0 l0.length c0] w fun e w' => ∃ g_ : Nat, e = .returned (.pointer (some ⟨g_, 0, none⟩)) ∧ IsS71 w0 w' g_ r1 r2 r3 r4 ∧ Below w0.heap.size w0 w' ∧ Below w.heap.size w w' := by
  unfold num_NewReader.f at h
  by_cases hl : l0.length * 1 ≤ 140737488355328
  · rw [if_pos hl] at h
    simp only [Option.some.injEq, Prod.mk.injEq] at h
    obtain ⟨rfl, rfl, rfl, rfl⟩ := h
    have hf : bytes_Clone.f l0 = some l0 := by unfold bytes_Clone.f; rw [if_pos hl]
    go_enter Tryd.func13, Tryd.ntmps13
    go_wp2_with (go_at_call 48; refine (bytes_Clone.calls A0 c0 l0 l0 w hr0 hc0 hf).mono ?_; rintro e w' ⟨v, rfl, hR, hB1⟩; obtain ⟨A, c, rfl⟩ := Kd.R_slice hR)
    go_ret
    have hB2 := below_step hB hB1
    have hR2 := Kd.R_lower hR (below_size hB)
    have hR3 : (Kd.int .u8).R 5 w' w0.heap.size (fun k => some k = (Value.slice A l0.length c).ownBlock) (.slice A l0.length c) l0 := Kd.R_of_own (h1 := fun _ => rfl) (Kd.own_of_R hR2) (fun k hk => hk.symm)
    exact ⟨_, rfl, ⟨A, c, .nilIface, by simpa using heap_alloc_new w' _, below_size hB2, Kd.R_below hR3 (below_alloc (Below.refl _ _) _), .inl ⟨rfl, rfl, rfl⟩, hG⟩, below_alloc hB2 _, below_alloc hB1 _⟩
  · rw [if_neg hl] at h; cases h

/-! ### num_Reader_ok: function 49 -/
theorem IsS71.open {w0 W : World} {g : Nat} {f0 : List Int} {f1 f2 f3 : Int} (h : IsS71 w0 W g f0 f1 f2 f3) :
    ∃ A0 c0 ev, W.heap[g]? = some (.cells #[.slice A0 f0.length c0, .int .i64 f1, ev] 71 (0, 0)) ∧ W.cell? ⟨g, 0, none⟩ = some (.slice A0 f0.length c0) ∧ W.cell? ⟨g, 1, none⟩ = some (.int .i64 f1) ∧ W.cell? ⟨g, 2, none⟩ = some ev ∧ (∀ j, W.frozen? ⟨g, j, none⟩ = false) ∧
      (Kd.int .u8).R 5 W w0.heap.size (fun k => some k = (Value.slice A0 f0.length c0).ownBlock) (.slice A0 f0.length c0) f0 ∧ FaultAt w0 W ev f2 f3 := by
  obtain ⟨A, c, ev, hb, hg, hr, hf, hG⟩ := h
  exact ⟨A, c, ev, hb, (blk_cell hb 0).trans rfl, (blk_cell hb 1).trans rfl, (blk_cell hb 2).trans rfl, fun j => by simp [World.frozen?, hb], hr, hf⟩
theorem FaultAt.eqNil {w0 W : World} {ev : Value} {e at_ : Int} (h : FaultAt w0 W ev e at_) (w : World) : (binOp BinOp.eql 69 ev .nilIface).run Tryd.prog w = .ok (.bool (decide (e = 0))) w := by
  rcases h with ⟨rfl, rfl, rfl⟩ | ⟨h0, F, rfl, _⟩
  · kernel_rfl
  · rw [decide_eq_false h0]; kernel_rfl
theorem FaultAt.guardNil {w0 W : World} {ev : Value} {e at_ : Int} (h : FaultAt w0 W ev e at_) (t : Nat) (w : World) : (eqGuard BinOp.eql 69 (Operand.tmp t) (Operand.const Value.nilIface) ev Value.nilIface).run Tryd.prog w = .ok () w := by
  rcases h with ⟨rfl, rfl, rfl⟩ | ⟨h0, F, rfl, _⟩
  · kernel_rfl
  · kernel_rfl
theorem num_Reader_ok.walk (g : Nat) (s0_0 : List Int) (s0_1 : Int) (s0_2 : Int) (s0_3 : Int) (w0 w : World) (hI : IsS71 w0 w g s0_0 s0_1 s0_2 s0_3) :
    Calls Tryd.prog 49 #[.pointer (some ⟨g, 0, none⟩)] w fun e w' => e = .returned (.bool (decide (s0_2 = 0))) ∧ w' = w := by
  obtain ⟨A, c, ev, hb, hc0, hc1, hc2, hfz, hr, hf⟩ := hI.open
  have hq := hf.eqNil
  have hq2 := hf.guardNil
  have e1 : ∀ w, (binOp BinOp.neq 26 (.pointer (some ⟨g, 0, none⟩)) (.pointer none)).run Tryd.prog w = .ok (.bool true) w := fun w => by kernel_rfl
  go_enter Tryd.func49, Tryd.ntmps49
  go_wp2
  go_ret
  exact ⟨rfl, rfl⟩
def num_Reader_ok.f (s0_0 : List Int) (s0_1 : Int) (s0_2 : Int) (s0_3 : Int) : Option (Bool × Int × Int × Int) := some (decide (s0_2 = 0), s0_1, s0_2, s0_3)
theorem num_Reader_ok.calls (g : Nat) (s0_0 : List Int) (s0_1 : Int) (s0_2 : Int) (s0_3 : Int) (r1 : Bool) (r2 r3 r4 : Int) (w0 w : World) (hI : IsS71 w0 w g s0_0 s0_1 s0_2 s0_3) (hB : Below w0.heap.size w0 w) (h : num_Reader_ok.f s0_0 s0_1 s0_2 s0_3 = some (r1, r2, r3, r4)) :
    Calls Tryd.prog 49 #[.pointer (some ⟨g, 0, none⟩)] w fun e w' => e = .returned (.bool r1) ∧ IsS71 w0 w' g s0_0 r2 r3 r4 ∧ Below w0.heap.size w0 w' ∧ KeepBut w w' g none := by
  simp only [num_Reader_ok.f, Option.some.injEq, Prod.mk.injEq] at h
  obtain ⟨rfl, rfl, rfl, rfl⟩ := h
  refine (num_Reader_ok.walk g s0_0 s0_1 s0_2 s0_3 w0 w hI).mono ?_
  rintro e w' ⟨rfl, rfl⟩
  exact ⟨rfl, hI, hB, KeepBut.refl _ _ _⟩

/-! ### num_Reader_Fail: function 17 -/
/-- What Fail does: nothing, or a new fault is put into the state. -/
def num_Reader_Fail.next (e at_ on f : Int) : Int × Int := if e = 0 ∧ f ≠ 0 then (f, at_) else (e, on)
set_option maxHeartbeats 4000000 in
theorem num_Reader_Fail.walk (g : Nat) (s0_0 : List Int) (s0_1 : Int) (s0_2 : Int) (s0_3 : Int) (a1 : Int) (w0 w : World) (hI : IsS71 w0 w g s0_0 s0_1 s0_2 s0_3) (hB : Below w0.heap.size w0 w) :
    Calls Tryd.prog 17 #[.pointer (some ⟨g, 0, none⟩), .int .i64 a1] w fun e w' => e = .returned (.tuple #[]) ∧ IsS71 w0 w' g s0_0 s0_1 (num_Reader_Fail.next s0_2 s0_1 s0_3 a1).1 (num_Reader_Fail.next s0_2 s0_1 s0_3 a1).2 ∧ Below w0.heap.size w0 w' ∧ KeepBut w w' g none := by
  have hI0 := hI
  obtain ⟨A, c, ev, hb, hc0, hc1, hc2, hfz, hr, hf⟩ := hI.open
  have hg := hI.ge
  have hlt := hI.lt
  by_cases h0 : s0_2 = 0
  · have d0 : decide (s0_2 = 0) = true := decide_eq_true h0
    by_cases h1 : a1 = 0
    · rw [show num_Reader_Fail.next s0_2 s0_1 s0_3 a1 = (s0_2, s0_3) from if_neg (by simp [h1])]
      subst h1
      go_enter Tryd.func17, Tryd.ntmps17
      go_wp2_with (go_at_call 49; refine (num_Reader_ok.walk g _ _ _ _ w0 w hI0).mono ?_; rintro e w' ⟨he, rfl⟩; rw [d0] at he; subst he)
      go_end0
      exact ⟨rfl, hI0, hB, KeepBut.refl _ _ _⟩
    · rw [show num_Reader_Fail.next s0_2 s0_1 s0_3 a1 = (a1, s0_1) from if_pos ⟨h0, h1⟩]
      have d1 : decide (a1 = 0) = false := decide_eq_false h1
      go_enter Tryd.func17, Tryd.ntmps17
      go_wp2_with (go_at_call 49; refine (num_Reader_ok.walk g _ _ _ _ w0 w hI0).mono ?_; rintro e w' ⟨he, rfl⟩; rw [d0] at he; subst he)
      go_end0
      exact ⟨rfl, hI0.fail h1 s0_1, below_alloc (below_set hB (show w0.heap.size ≤ (⟨g, 2, none⟩ : Addr).block from hg)) _, keep_alloc (KeepBut.set_ (KeepBut.refl _ _ _) _ _) _⟩
  · rw [show num_Reader_Fail.next s0_2 s0_1 s0_3 a1 = (s0_2, s0_3) from if_neg (by simp [h0])]
    have d0 : decide (s0_2 = 0) = false := decide_eq_false h0
    go_enter Tryd.func17, Tryd.ntmps17
    go_wp2_with (go_at_call 49; refine (num_Reader_ok.walk g _ _ _ _ w0 w hI0).mono ?_; rintro e w' ⟨he, rfl⟩; rw [d0] at he; subst he)
    go_end0
    exact ⟨rfl, hI0, hB, KeepBut.refl _ _ _⟩
def num_Reader_Fail.f (s0_0 : List Int) (s0_1 : Int) (s0_2 : Int) (s0_3 : Int) (a1 : Int) : Option (Int × Int × Int) := some (s0_1, num_Reader_Fail.next s0_2 s0_1 s0_3 a1)
theorem num_Reader_Fail.calls (g : Nat) (s0_0 : List Int) (s0_1 : Int) (s0_2 : Int) (s0_3 : Int) (a1 : Int) (r1 r2 r3 : Int) (w0 w : World) (hI : IsS71 w0 w g s0_0 s0_1 s0_2 s0_3) (hB : Below w0.heap.size w0 w) (h : num_Reader_Fail.f s0_0 s0_1 s0_2 s0_3 a1 = some (r1, r2, r3)) :
    Calls Tryd.prog 17 #[.pointer (some ⟨g, 0, none⟩), .int .i64 a1] w fun e w' => e = .returned (.tuple #[]) ∧ IsS71 w0 w' g s0_0 r1 r2 r3 ∧ Below w0.heap.size w0 w' ∧ KeepBut w w' g none := by
  simp only [num_Reader_Fail.f, Option.some.injEq, Prod.mk.injEq] at h
  obtain ⟨rfl, h⟩ := h
  have := num_Reader_Fail.walk g s0_0 s0_1 s0_2 s0_3 a1 w0 w hI hB
  rw [h] at this
  exact this

end Go.Proofs.YtjmhfbgpebgcmaaDoor.PRunsBack
