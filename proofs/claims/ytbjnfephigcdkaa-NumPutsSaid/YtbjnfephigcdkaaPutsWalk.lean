/- num.PutVar, PutFix and PutBlob behind a row of a block of its own. -/
import Derived.Test.YtbjnfephigcdkaaPuts
namespace Go.Proofs.Ytbjnfephigcdkaa.Puts
open Go.RowKit Go.Proofs.Ytbjnfephigcdkaa.PNumPuts Go.Proofs.Ytbjnfephigcdkaa.Pure Go.Proofs.YtbjnfephigcdkaaW.PrintWords Go.Proofs.YtbjnfephigcdkaaW.PrintLast Go.Proofs.YtbjnfephigcdkaaW.PrintMore
attribute [local go_sem] max2_int min2_int max_two min_two max_three min_three max_four min_four
set_option linter.unusedVariables false
set_option linter.unusedSimpArgs false
theorem new_cell (W : World) (u : Value) (t : TypeId) : (W.alloc (.cells #[u] t)).cell? ⟨W.heap.size, 0, none⟩ = some u := by
  rw [blk_cell (heap_alloc_new W _) 0]; rfl
theorem one_news {W : World} {y : Int} {t : TypeId} : ∀ (j : Nat) (u : Int), ([y] : List Int)[j]? = some u → (W.alloc (.cells #[.int .u8 y] t)).cell? ((⟨W.heap.size, 0, none⟩ : Addr).add j) = some (.int .u8 u) := by
  intro j u hj
  obtain ⟨hlt, rfl⟩ := List.getElem?_eq_some_iff.1 hj
  have : j = 0 := by simp at hlt; omega
  subst this
  rw [add0, new_cell]
  rfl
set_option maxHeartbeats 4000000 in
theorem PutVar_ext (W : World) (g cap : Nat) (xs : List Int) (n : Nat) (hn : n < 18446744073709551616) (hp : Pre W g cap xs) (hc : xs.length ≤ cap) (hcap : cap ≤ maxLen) (hx : xs.length ≤ 1000) :
    Calls Try.prog 18 #[.slice (some ⟨g, 0, none⟩) xs.length cap, .int .u64 n] W fun e w' => ∃ u, e = .returned u ∧ Ext W w' g cap xs u (xs ++ leb n) := by
  have hg := hp.lt
  have hl10 := leb_length10 hn
  have HS := Ext.start hp hc
  go_enter Try.func18, Try.ntmps18
  go_wp2
  go_loopw [0, 1] (fun v k wr => ∃ (out : List Int) (m : Nat), m ≤ n ∧ k = .int .u64 m ∧ Aside0 (out ++ leb m = xs ++ leb n) ∧ Ext W wr g cap xs v out) (fun _ k _ => (intOf k).toNat)
  case atStart => exact ⟨xs, n, Nat.le_refl _, rfl, ⟨rfl⟩, HS⟩
  case round =>
    obtain ⟨out, m, hm, rfl, hE, hX⟩ := hrel
    have hlen : out.length + (leb m).length = xs.length + (leb n).length := by
      have := congrArg List.length hE.out
      simpa using this
    by_cases hlt : m < 128
    · have hlt' : ¬ (128 : Int) ≤ (m : Int) := by omega
      go_wp2_with (at_builtin; refine ext_append rfl (.tmp 15) (.tmp 18) rfl rfl ⟨_, 0, none⟩ 1 1 [(m : Int)] rfl rfl one_news (hX.alloc _) hg hcap ?c1 ?_)
      case c1 => omega
      intro v' w' hX'
      have HE : out ++ [(m : Int)] = xs ++ leb n := by rw [← hE.out, leb_small hlt]
      rw [HE] at hX'
      clear hE HE hX
      go_wp2
      go_ret
      exact ⟨_, rfl, hX'⟩
    · have hlt' : (128 : Int) ≤ (m : Int) := by omega
      go_wp2_with (at_builtin; refine ext_append rfl (.tmp 9) (.tmp 13) rfl rfl ⟨_, 0, none⟩ 1 1 [bits BinOp.or IntKind.u8 ((m : Int) % 256) 128] rfl rfl one_news (hX.alloc _) hg hcap ?c1 ?_)
      case c1 => omega
      intro v' w' hX'
      have hor : bits BinOp.or IntKind.u8 ((m : Int) % 256) 128 = ((m % 128 + 128 : Nat) : Int) := by
        rw [Lib.u8_or128_any _ (by omega) (by omega)]
        omega
      have HE : (out ++ [bits BinOp.or IntKind.u8 ((m : Int) % 256) 128]) ++ leb (m / 128) = xs ++ leb n := by rw [← hE.out, leb_big (v := m) (by omega), hor, List.append_assoc]; rfl
      have HE := Aside0.mk HE
      have HX := Aside0.mk hX'
      clear hE hor hX' hX
      go_wp2
      exact ⟨⟨_, m / 128, by omega, by rw [show ((m : Int) / 128) = ((m / 128 : Nat) : Int) from by omega], HE, HX.out⟩, by simp [intOf]; omega⟩
set_option maxHeartbeats 4000000 in
theorem PutFix_in (W : World) (g cap : Nat) (xs : List Int) (n : Nat) (N : Nat) (h0 : 0 < N) (h8 : N ≤ 8) (hn : n < 18446744073709551616) (hp : Pre W g cap xs) (hc : xs.length ≤ cap) (hcap : cap ≤ maxLen) (hx : xs.length ≤ 1000) :
    Calls Try.prog 20 #[.slice (some ⟨g, 0, none⟩) xs.length cap, .int .u64 n, .int .i64 N] W fun e w' => ∃ u, e = .returned u ∧ Ext W w' g cap xs u (xs ++ fixb N n) := by
  have hg := hp.lt
  have HS := Ext.start hp hc
  have h0' : (0 : Int) < N := by omega
  have h8' : (N : Int) ≤ 8 := by omega
  go_enter Try.func20, Try.ntmps20
  go_wp2
  go_loopw [0, 1, 10] (fun v k1 k2 wr => ∃ (out : List Int) (m i : Nat), m ≤ n ∧ i ≤ N ∧ k1 = .int .u64 m ∧ k2 = .int .i64 i ∧ Aside0 (out ++ fixb (N - i) m = xs ++ fixb N n) ∧ Aside0 (out.length ≤ 1000 + i) ∧ Ext W wr g cap xs v out) (fun _ _ k2 _ => N - (intOf k2).toNat)
  case atStart => exact ⟨xs, n, 0, Nat.le_refl _, Nat.zero_le _, rfl, rfl, ⟨rfl⟩, ⟨by omega⟩, HS⟩
  case round =>
    clear HS
    obtain ⟨out, m, i, hm, hi, rfl, rfl, hE, hO, hX⟩ := hrel
    by_cases hlt : i < N
    · have hlt' : (i : Int) < N := by omega
      go_wp2_with (at_builtin; refine ext_append rfl (.tmp 12) (.tmp 15) rfl rfl ⟨_, 0, none⟩ 1 1 [(m : Int) % 256] rfl rfl one_news (hX.alloc _) hg hcap ?c1 ?_)
      case c1 => have := hO.out; omega
      intro v' w' hX'
      have HE : (out ++ [(m : Int) % 256]) ++ fixb (N - (i + 1)) (m / 256) = xs ++ fixb N n := by
        rw [← hE.out, show N - i = (N - (i + 1)) + 1 from by omega, fixb, List.append_assoc]
        rfl
      have HE := Aside0.mk HE
      have HX := Aside0.mk hX'
      have HO : Aside0 ((out ++ [(m : Int) % 256]).length ≤ 1000 + (i + 1)) := ⟨by have := hO.out; simp; omega⟩
      clear hE hX' hX hO
      go_wp2
      exact ⟨⟨_, m / 256, i + 1, by omega, by omega, by rw [show ((m : Int) / 256) = ((m / 256 : Nat) : Int) from by omega], rfl, HE, HO, HX.out⟩, by simp [intOf]; omega⟩
    · obtain rfl : N = i := by omega
      have HE : out = xs ++ fixb N n := by
        have := hE.out
        rw [Nat.sub_self, fixb, List.append_nil] at this
        exact this
      rw [HE] at hX
      clear hE HE
      go_wp2
      go_ret
      exact ⟨_, rfl, hX⟩
set_option maxHeartbeats 4000000 in
theorem PutFix_over (W : World) (g cap : Nat) (xs : List Int) (n : Nat) (size : Int) (h8 : 8 < size) (hn : n < 18446744073709551616) (hp : Pre W g cap xs) (hc : xs.length ≤ cap) (hcap : cap ≤ maxLen) (hx : xs.length ≤ 1000) :
    Calls Try.prog 20 #[.slice (some ⟨g, 0, none⟩) xs.length cap, .int .u64 n, .int .i64 size] W fun e w' => ∃ u, e = .returned u ∧ Ext W w' g cap xs u (xs ++ fixb 8 n) := by
  have hg := hp.lt
  have HS := Ext.start hp hc
  go_enter Try.func20, Try.ntmps20
  go_wp2
  go_loopw [0, 1, 10] (fun v k1 k2 wr => ∃ (out : List Int) (m i : Nat), m ≤ n ∧ i ≤ 8 ∧ k1 = .int .u64 m ∧ k2 = .int .i64 i ∧ Aside0 (out ++ fixb (8 - i) m = xs ++ fixb 8 n) ∧ Aside0 (out.length ≤ 1000 + i) ∧ Ext W wr g cap xs v out) (fun _ _ k2 _ => 8 - (intOf k2).toNat)
  case atStart => exact ⟨xs, n, 0, Nat.le_refl _, Nat.zero_le _, rfl, rfl, ⟨rfl⟩, ⟨by omega⟩, HS⟩
  case round =>
    clear HS
    obtain ⟨out, m, i, hm, hi, rfl, rfl, hE, hO, hX⟩ := hrel
    by_cases hlt : i < 8
    · have hlt' : (i : Int) < 8 := by omega
      go_wp2_with (at_builtin; refine ext_append rfl (.tmp 12) (.tmp 15) rfl rfl ⟨_, 0, none⟩ 1 1 [(m : Int) % 256] rfl rfl one_news (hX.alloc _) hg hcap ?c1 ?_)
      case c1 => have := hO.out; omega
      intro v' w' hX'
      have HE : (out ++ [(m : Int) % 256]) ++ fixb (8 - (i + 1)) (m / 256) = xs ++ fixb 8 n := by
        rw [← hE.out, show 8 - i = (8 - (i + 1)) + 1 from by omega, fixb, List.append_assoc]
        rfl
      have HE := Aside0.mk HE
      have HX := Aside0.mk hX'
      have HO : Aside0 ((out ++ [(m : Int) % 256]).length ≤ 1000 + (i + 1)) := ⟨by have := hO.out; simp; omega⟩
      clear hE hX' hX hO
      go_wp2
      exact ⟨⟨_, m / 256, i + 1, by omega, by omega, by rw [show ((m : Int) / 256) = ((m / 256 : Nat) : Int) from by omega], rfl, HE, HO, HX.out⟩, by simp [intOf]; omega⟩
    · obtain rfl : i = 8 := by omega
      have HE : out = xs ++ fixb 8 n := by
        have := hE.out
        rw [Nat.sub_self, fixb, List.append_nil] at this
        exact this
      rw [HE] at hX
      clear hE HE
      go_wp2
      go_ret
      exact ⟨_, rfl, hX⟩
set_option maxHeartbeats 4000000 in
theorem PutFix_low (W : World) (g cap : Nat) (xs : List Int) (n : Nat) (size : Int) (hs : size ≤ 0) (hp : Pre W g cap xs) (hc : xs.length ≤ cap) :
    Calls Try.prog 20 #[.slice (some ⟨g, 0, none⟩) xs.length cap, .int .u64 n, .int .i64 size] W fun e w' => ∃ u, e = .returned u ∧ Ext W w' g cap xs u xs := by
  have HS := Ext.start hp hc
  go_enter Try.func20, Try.ntmps20
  go_wp2
  all_goals
    refine wp_loop_rounds 1 ?_
    rw [rounds_succ]
    go_wp2
    go_ret
    exact ⟨_, rfl, HS⟩
theorem PutFix_ext (W : World) (g cap : Nat) (xs : List Int) (n : Nat) (size : Int) (hn : n < 18446744073709551616) (hp : Pre W g cap xs) (hc : xs.length ≤ cap) (hcap : cap ≤ maxLen) (hx : xs.length ≤ 1000) :
    Calls Try.prog 20 #[.slice (some ⟨g, 0, none⟩) xs.length cap, .int .u64 n, .int .i64 size] W fun e w' => ∃ u, e = .returned u ∧ Ext W w' g cap xs u (xs ++ fixb (max 0 (min size 8)).toNat n) := by
  by_cases h0 : size ≤ 0
  · rw [show (max 0 (min size 8)).toNat = 0 from by omega, fixb, List.append_nil]
    exact PutFix_low W g cap xs n size h0 hp hc
  · by_cases h8 : size ≤ 8
    · obtain ⟨N, rfl⟩ := Int.eq_ofNat_of_zero_le (show 0 ≤ size by omega)
      rw [show (max 0 (min (N : Int) 8)).toNat = N from by omega]
      exact PutFix_in W g cap xs n N (by omega) (by omega) hn hp hc hcap hx
    · rw [show (max 0 (min size 8)).toNat = 8 from by omega]
      exact PutFix_over W g cap xs n size (by omega) hn hp hc hcap hx
theorem C_cellsP {W : World} {A : Option Addr} {l : List Int} (h : (Kd.int .u8).C W A l.length l) (hpos : 0 < l.length) : ∃ ad, A = some ad ∧ ∀ j (hj : j < l.length), W.cell? (ad.add j) = some (.int .u8 (l.getD j 0)) := by
  obtain ⟨h1, h2, hc⟩ := h
  obtain ⟨ad, hA, hd⟩ := hc hpos
  refine ⟨ad, hA, fun j hj => ?_⟩
  obtain ⟨c, hl, hR, hu⟩ := hd j l[j] (by simp [hj])
  have e : c = [.int .u8 l[j]] := hR
  subst e
  have := hu 0 _ rfl
  simpa [Kd.int, Kd.scalar, List.getD, hj] using this
/-- Nothing is put behind. -/
theorem ext_append_nil {W w : World} {g cap : Nat} {xs out : List Int} {v : Value} {ops : Array Oper} {rest : List Oper} {o : Oper} {a : Act} {Q : Exit → Act → World → Prop} (hgd : o.guard = none) (s x : Operand)
    (ho : o.op = .call { callee := .builtin .append, args := #[s, x], argTypes := #[22, 22] }) (hs : a.eval s = v) (hx : a.eval x = .slice none 0 0) (hE : Ext W w g cap xs v out) (hcap : cap ≤ maxLen)
    (h : wpList Try.prog ops Q rest (a.put o.dst v) w) : wpList Try.prog ops Q (o :: rest) a w := by
  obtain ⟨i0, hi, _⟩ := Option.map_eq_some_iff.1 info5
  rcases hE.val with ⟨rfl, h1, h2⟩ | h2
  · exact wpList_append_own_none hgd s x 22 ho 0 5 i0 1 Try.underlying22 hi _ _ _ hs (h2.owns h1 hcap) hx h
  · exact wpList_append_own_none hgd s x 22 ho W.heap.size 5 i0 1 Try.underlying22 hi _ _ _ hs h2 hx h
set_option maxHeartbeats 4000000 in
theorem PutBlob_ext (W : World) (g cap : Nat) (xs : List Int) (A : Option Addr) (p : List Int) (c : Nat) (hr : (Kd.int .u8).C W A p.length p) (hA : A = none → p = [] ∧ c = 0) (hp8 : p.length ≤ 1000) (hp : Pre W g cap xs) (hc : xs.length ≤ cap) (hcap : cap ≤ maxLen) (hx : xs.length ≤ 1000) (hng : 0 < p.length → ∀ ad, A = some ad → ad.block ≠ g ∧ ad.block < W.heap.size) :
    Calls Try.prog 22 #[.slice (some ⟨g, 0, none⟩) xs.length cap, .slice A p.length c] W fun e w' => ∃ u, e = .returned u ∧ Ext W w' g cap xs u (xs ++ (leb p.length ++ p)) := by
  have hg := hp.lt
  have h10 := leb_length10 (v := p.length) (by omega)
  have hV := PutVar_ext W g cap xs p.length (by omega) hp hc hcap hx
  cases A with
  | none =>
    obtain ⟨rfl, rfl⟩ := hA rfl
    go_enter Try.func22, Try.ntmps22
    go_wp2_with (first | (go_at_call 18; refine hV.mono ?_; rintro e w1 ⟨u, rfl, hX⟩) | (at_builtin; refine ext_append_nil rfl (.tmp 9) (.tmp 10) rfl rfl rfl hX hcap ?_))
    go_ret
    exact ⟨_, rfl, by rw [List.append_nil]; exact hX⟩
  | some ad =>
    have hcell : ∀ w, W.grownBy w (some g) → ∀ j u, p[j]? = some u → w.cell? (ad.add j) = some (.int .u8 u) := by
      intro w hw j u hj
      obtain ⟨hlt, rfl⟩ := List.getElem?_eq_some_iff.1 hj
      obtain ⟨hn1, hn2⟩ := hng (by omega) ad rfl
      obtain ⟨ad', e, hcc⟩ := C_cellsP hr (by omega)
      injection e with e
      subst e
      have h0 := hcc j hlt
      have hbk : (ad.add j).block = ad.block := by unfold Addr.add; split <;> rfl
      rw [World.cell?_of_block (a := ad.add j) (w := W) (by rw [hbk]; exact hw.block ad.block hn2 (by simpa using hn1)), h0]
      simp [List.getD, hlt]
    clear hA hng
    go_enter Try.func22, Try.ntmps22
    go_wp2_with (first | (go_at_call 18; refine hV.mono ?_; rintro e w1 ⟨u, rfl, hX⟩) | (at_builtin; refine ext_append rfl (.tmp 9) (.tmp 10) rfl rfl ad p.length c p rfl rfl (hcell _ hX.grown) hX hg hcap ?c1 ?_))
    case c1 => simp only [List.length_append]; omega
    intro v' w' hX'
    have HX := Aside0.mk hX'
    clear hX' hX hcell
    go_wp2
    go_ret
    exact ⟨_, rfl, HX.out⟩
end Go.Proofs.Ytbjnfephigcdkaa.Puts
