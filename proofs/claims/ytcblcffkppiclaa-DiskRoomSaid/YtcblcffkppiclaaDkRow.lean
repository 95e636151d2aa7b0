/- Bytes put behind a file's row. -/
import Derived.Test.YtcblcffkppiclaaDkPut
namespace Go.Proofs.Ytcblcffkppiclaa.Dk
open Go.RowKit Go.Maps Go.Proofs.Ytcblcffkppiclaa.DkMap Go.Proofs.YtcblcffkppiclaaW.PrintWords Go.Proofs.YtcblcffkppiclaaW.PrintLast Go.Proofs.YtcblcffkppiclaaW.PrintMore
set_option linter.unusedVariables false
set_option linter.unusedSimpArgs false
theorem info5 : (Try.prog.info? 5).map (fun i => (i.zero, i.size, i.bytes)) = some (some (.int .u8 0), 1, 1) := by kernel_rfl
/-- One file's row has turned, nothing else. -/
structure RTurn (w w' : World) (tag tag' : Tags) (s : List UInt8) : Prop where
  os : w'.os = w.os
  tape : w'.tape = w.tape
  output : w'.output = w.output
  size : w.heap.size ≤ w'.heap.size
  block : ∀ k, k < w.heap.size → tag k ≠ some (.row s) → w'.heap[k]? = w.heap[k]?
  same : ∀ k, k < w.heap.size → tag' k = tag k
  fresh : ∀ k, w'.heap.size ≤ k → tag' k = none
theorem pre_cell {w : World} {R : Nat} {cur : Array Value} {xs : List Int} (h : w.heap[R]? = some (.cells cur 5 (0, 0))) (ht : cur.toList.take xs.length = xs.map (Value.int .u8)) {j : Nat} {u : Int} (hj : xs[j]? = some u) : w.cell? ⟨R, j, none⟩ = some (.int .u8 u) := by
  rw [blk_cell h j]
  obtain ⟨hlt, rfl⟩ := List.getElem?_eq_some_iff.1 hj
  have h4 := congrArg (fun l => l[j]?) ht
  simp only [List.getElem?_take, hlt, if_true, List.getElem?_map, Array.getElem?_toList] at h4
  rw [h4]
  simp [hlt]
theorem ssc_other (g : Nat) : ∀ (vs : List Value) (o : Nat) (w : World) (k : Nat), k ≠ g → (w.setCells g o vs).heap[k]? = w.heap[k]?
  | [], _, _, _, _ => rfl
  | v :: r, o, w, k, h => by
    rw [World.setCells]
    exact (ssc_other g r (o + 1) _ k h).trans (Below.heap_setCell w ⟨g, o, none⟩ v k h)
/-- A row that was made since is the file's. -/
theorem RTurn.made {w w' : World} {tag : Tags} {s : List UInt8} {v : Value} {zs : List Int} {n : Nat} (hn : n = zs.length) (hfr : ∀ k, w.heap.size ≤ k → tag k = none) (how : w'.ownsRow w.heap.size 5 1 v n (zs.map (Value.int .u8))) (hg : w.grownBy w' none) :
    ∃ tag', FRow w' tag' s v zs ∧ RTurn w w' tag tag' s := by
  subst hn
  obtain ⟨_, h⟩ := how
  rcases h with ⟨rfl, h0⟩ | ⟨g, cap, cur, rfl, hb, hh, hle, hmx, hsz, htk⟩
  · refine ⟨tag, .inl ⟨rfl, List.eq_nil_of_length_eq_zero h0⟩, hg.os, hg.tape, hg.output, hg.size, fun k hk _ => hg.block k hk (by simp), fun _ _ => rfl, fun k hk => hfr k (Nat.le_trans hg.size hk)⟩
  · have hlt := blk_lt hh
    refine ⟨fun k => if k = g then some (.row s) else tag k, .inr ⟨g, cap, cur, rfl, hh, hle, by omega, hmx, by rw [Nat.mul_one] at htk; exact htk, by simp⟩, hg.os, hg.tape, hg.output, hg.size, fun k hk _ => hg.block k hk (by simp), fun k hk => ?_, fun k hk => ?_⟩
    · show (if k = g then _ else _) = _
      rw [if_neg (by omega)]
    · show (if k = g then _ else _) = _
      rw [if_neg (by omega)]
      exact hfr k (Nat.le_trans hg.size hk)
theorem run_append_none_any {P : Program} {w : World} (t ty e : TypeId) (i : TypeInfo) (ht : P.underlying t = some (.slice e)) (hi : P.info? e = some i) (ad : Addr) (n cap : Nat) (h : n ≤ cap) :
    (Builtin.append_ #[t, t] ty #[.slice (some ad) n cap, .slice none 0 0]).run P w = .ok (.slice (some ad) n cap) w := by
  simp [Builtin.append_, run_underlying ht, sizeOf, typeInfo, hi, Builtin.lenOf, Builtin.firstCells, h, storeCells]
/-- Bytes are put behind. -/
theorem frow_append {w : World} {tag : Tags} {s : List UInt8} {v : Value} {xs : List Int} {ops : Array Oper} {rest : List Oper} {o : Oper} {a : Act} {Q : Exit → Act → World → Prop} (hgd : o.guard = none) (sx x : Operand)
    (ho : o.op = .call { callee := .builtin .append, args := #[sx, x], argTypes := #[26, 26] }) (hs : a.eval sx = v) (A : Option Addr) (m c : Nat) (news : List Int) (hx : a.eval x = .slice A m c) (hA : A = none → m = 0 ∧ c = 0) (hm : news.length = m)
    (hc : ∀ ad, A = some ad → ∀ j u, news[j]? = some u → w.cell? (ad.add j) = some (.int .u8 u)) (hR : FRow w tag s v xs) (hfr : ∀ k, w.heap.size ≤ k → tag k = none) (hl : xs.length + m ≤ 140737488355328)
    (h : ∀ v' w' tag', FRow w' tag' s v' (xs ++ news) → RTurn w w' tag tag' s → wpList Try.prog ops Q rest (a.put o.dst v') w') : wpList Try.prog ops Q (o :: rest) a w := by
  obtain ⟨i0, hi, hzz⟩ := Option.map_eq_some_iff.1 info5
  simp only [Prod.mk.injEq] at hzz
  obtain ⟨hz0, hz1, hz2⟩ := hzz
  have hone : ∀ u ∈ news.map (Value.int .u8), u.oneCell' = true := by intro u hu; obtain ⟨z, _, rfl⟩ := List.mem_map.1 hu; rfl
  have hmx : xs.length + m ≤ maxLen := by unfold maxLen; omega
  have hrefl : RTurn w w tag tag s := ⟨rfl, rfl, rfl, Nat.le_refl _, fun _ _ _ => rfl, fun _ _ => rfl, hfr⟩
  cases A with
  | none =>
    obtain ⟨rfl, rfl⟩ := hA rfl
    have hn0 : news = [] := List.eq_nil_of_length_eq_zero hm
    subst hn0
    have hfin := h v w tag (by rw [List.append_nil]; exact hR) hrefl
    rcases hR with ⟨rfl, rfl⟩ | ⟨R, cap, cur, rfl, h2, h3, h4, h5, h6, h7⟩
    · exact wpList_append_own_none hgd sx x 26 ho 0 5 i0 1 Try.underlying26 hi _ 0 [] hs (World.ownsRow_nil w 0 5 1) hx hfin
    · refine wpList_plain hgd fun K hK => ?_
      have hrun := run_append_none_any (P := Try.prog) (w := w) 26 o.type 5 i0 Try.underlying26 hi ⟨R, 0, none⟩ xs.length cap h3
      unfold Oper.wp
      simp [execOp, ho, resolve, invoke, builtin, hs, hx, hrun, Result.andThen]
      exact hK _ _ hfin
  | some ad =>
    have hnews : ∀ j u, (news.map (Value.int .u8))[j]? = some u → w.cell? (ad.add j) = some u := by
      intro j u hj
      rw [List.getElem?_map] at hj
      obtain ⟨y, hy, rfl⟩ := Option.map_eq_some_iff.1 hj
      exact hc ad rfl j y hy
    rcases hR with ⟨rfl, rfl⟩ | ⟨R, cap, cur, rfl, h2, h3, h4, h5, h6, h7⟩
    · refine wpList_append_own w hgd sx x 26 ho w.heap.size 5 i0 (.int .u8 0) 1 1 Try.underlying26 hi hz0 hz1 hz2 rfl (by decide) _ 0 [] hs (World.ownsRow_nil w _ 5 1) ad m c (news.map (Value.int .u8)) hx (by simp [hm]) hnews hone (by unfold maxLen; simp at hl; omega) (by simp at hl; omega) (Nat.le_refl _) ?_
      intro v' w' how hgr _
      obtain ⟨tag', t1, t2⟩ := RTurn.made (s := s) (zs := news) (n := 0 + m) (by omega) hfr (by simpa using how) hgr
      exact h v' w' tag' (by simpa using t1) t2
    · refine wpList_append_arg w hgd sx x 26 ho 5 i0 (.int .u8 0) 1 1 Try.underlying26 hi hz0 hz1 hz2 rfl (by decide) R 0 xs.length cap (xs.map (Value.int .u8)) hs (by simp) ?_ ad m c (news.map (Value.int .u8)) hx (by simp [hm]) hnews hone ?_ hmx (by omega) ?_ ?_
      · intro j u hj
        rw [List.getElem?_map] at hj
        obtain ⟨y, hy, rfl⟩ := Option.map_eq_some_iff.1 hj
        rw [Nat.zero_add]
        exact pre_cell h2 h6 hy
      · intro hroom j hj
        rw [List.length_map] at hj
        refine ⟨?_, blk_frozen h2 _⟩
        rw [blk_cell h2]
        simp
        omega
      · intro hroom
        obtain ⟨s1, s2, s3, s4⟩ := setCells_same R (news.map (Value.int .u8)) (0 + xs.length * 1) w
        obtain ⟨cur', c1, c2, c3⟩ := setCells_row (news.map (Value.int .u8)) (0 + xs.length * 1) w cur h2 (by simp; omega)
        refine h _ _ tag (.inr ⟨R, cap, cur', by rw [List.length_append, hm], c1, by rw [List.length_append]; omega, by rw [c2]; exact h4, h5, ?_, h7⟩) ⟨s1, s2, s3, by rw [s4]; exact Nat.le_refl _, fun k hk hne => ssc_other R _ _ w k (fun e => hne (by rw [e, h7])), fun _ _ => rfl, fun k hk => hfr k (by rw [s4] at hk; exact hk)⟩
        rw [c3, List.map_append, ← h6, List.length_append]
        have e4 : (cur.toList.take (0 + xs.length * 1)).length = xs.length := by simp; omega
        rw [Nat.zero_add, Nat.mul_one, List.append_assoc, List.take_append]
        simp
        rw [List.take_of_length_le (by simp; omega)]
        have e5 : xs.length + news.length - min xs.length cur.size = news.length := by omega
        rw [e5]
        simp
      · intro hgrow v' w' how hgr
        obtain ⟨tag', t1, t2⟩ := RTurn.made (s := s) (zs := xs ++ news) (n := xs.length + m) (by rw [List.length_append]; omega) hfr (by rw [List.map_append]; exact how) hgr
        exact h v' w' tag' t1 t2
end Go.Proofs.Ytcblcffkppiclaa.Dk
