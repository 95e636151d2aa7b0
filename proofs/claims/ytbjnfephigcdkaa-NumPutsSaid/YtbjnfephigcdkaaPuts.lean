/- What num's putting functions do behind a row that lies in a block of its own: the row's beginning stays, whatever happens to its spare room. -/
import Derived.Test.YtbjnfephigcdkaaPNumPutsx1
import Derived.Test.YtbjnfephigcdkaaPureNumPuts
namespace Go.Proofs.Ytbjnfephigcdkaa.Puts
open Go.RowKit Go.Proofs.Ytbjnfephigcdkaa.PNumPuts Go.Proofs.Ytbjnfephigcdkaa.Pure Go.Proofs.YtbjnfephigcdkaaW.PrintWords Go.Proofs.YtbjnfephigcdkaaW.PrintLast Go.Proofs.YtbjnfephigcdkaaW.PrintMore
attribute [local go_sem] max2_int min2_int max_two min_two max_three min_three max_four min_four
set_option linter.unusedVariables false
set_option linter.unusedSimpArgs false
/-- Block g is a row of cap bytes that begins with xs. -/
def Pre (w : World) (g cap : Nat) (xs : List Int) : Prop := ∃ cur, w.heap[g]? = some (.cells cur 5 (0, 0)) ∧ cur.size = cap ∧ cur.toList.take xs.length = xs.map (Value.int .u8)
/-- v shows out: it is that row, longer, or a row that was made since. -/
structure Ext (W w : World) (g cap : Nat) (xs : List Int) (v : Value) (out : List Int) : Prop where
  grown : W.grownBy w (some g)
  pre : Pre w g cap xs
  more : ∃ ys, out = xs ++ ys
  val : (v = .slice (some ⟨g, 0, none⟩) out.length cap ∧ out.length ≤ cap ∧ Pre w g cap out) ∨ w.ownsRow W.heap.size 5 1 v out.length (out.map (Value.int .u8))
section
variable {W w : World} {g cap : Nat} {xs out : List Int} {v : Value}
theorem Pre.owns (h : Pre w g cap xs) (hc : xs.length ≤ cap) (hm : cap ≤ maxLen) : w.ownsRow 0 5 1 (.slice (some ⟨g, 0, none⟩) xs.length cap) xs.length (xs.map (Value.int .u8)) := by
  obtain ⟨cur, h1, h2, h3⟩ := h
  exact ⟨by simp, .inr ⟨g, cap, cur, rfl, Nat.zero_le _, h1, hc, hm, by rw [Nat.mul_one]; exact h2, by rw [Nat.mul_one]; exact h3⟩⟩
theorem Pre.cell (h : Pre w g cap xs) {j : Nat} (hj : j < xs.length) : w.cell? ⟨g, j, none⟩ = some (.int .u8 (xs.getD j 0)) := by
  obtain ⟨cur, h1, h2, h3⟩ := h
  rw [blk_cell h1 j]
  have h4 := congrArg (fun l => l[j]?) h3
  simp only [List.getElem?_take, hj, if_true, List.getElem?_map, Array.getElem?_toList] at h4
  rw [h4]
  simp [List.getD, hj]
theorem Pre.lt (h : Pre w g cap xs) : g < w.heap.size := by
  obtain ⟨cur, h1, _⟩ := h
  exact blk_lt h1
theorem Pre.same {w' : World} (h : Pre w g cap xs) (hs : w'.heap[g]? = w.heap[g]?) : Pre w' g cap xs := by
  obtain ⟨cur, h1, h2⟩ := h
  exact ⟨cur, hs.trans h1, h2⟩
theorem C_of_cells {A : Option Addr} {ad : Addr} {l : List Int} (hA : A = some ad) (hl : l.length ≤ 9223372036854775807) (h : ∀ j, j < l.length → w.cell? (ad.add j) = some (.int .u8 (l.getD j 0))) : (Kd.int .u8).C w A l.length l :=
  Kd.C_of_reads (enc := Value.int .u8) (d := (0 : Int)) (h1 := fun _ => rfl) ⟨rfl, hl, fun _ => ⟨ad, hA, h⟩⟩
theorem add0 (g j : Nat) : (Addr.add ⟨g, 0, none⟩ j) = ⟨g, j, none⟩ := by by_cases h0 : j = 0 <;> simp [Addr.add, h0]
theorem Pre.C (h : Pre w g cap xs) (hl : xs.length ≤ 9223372036854775807) : (Kd.int .u8).C w (some ⟨g, 0, none⟩) xs.length xs :=
  C_of_cells rfl hl (fun j hj => by rw [add0]; exact h.cell hj)
theorem Ext.reads (h : Ext W w g cap xs v out) (hm : cap ≤ maxLen) : ∃ A c, v = .slice A out.length c ∧ out.length ≤ c ∧ (Kd.int .u8).C w A out.length out := by
  unfold maxLen at hm
  rcases h.val with ⟨rfl, h1, h2⟩ | h2
  · exact ⟨_, cap, rfl, h1, h2.C (by omega)⟩
  · obtain ⟨hlen, h2⟩ := h2
    rcases h2 with ⟨rfl, h0⟩ | ⟨b, c, cur, rfl, hb, hh, hle, hmx, hsz, htk⟩
    · have : out = [] := List.eq_nil_of_length_eq_zero h0
      subst this
      exact ⟨none, 0, rfl, Nat.le_refl _, ⟨rfl, by simp, fun h => absurd h (by simp)⟩⟩
    · unfold maxLen at hmx
      refine ⟨_, c, rfl, hle, Pre.C (cap := c) ⟨cur, hh, by rw [hsz, Nat.mul_one], by rw [Nat.mul_one] at htk; exact htk⟩ (by omega)⟩
theorem Ext.start (h : Pre w g cap xs) (hc : xs.length ≤ cap) : Ext w w g cap xs (.slice (some ⟨g, 0, none⟩) xs.length cap) xs :=
  ⟨⟨rfl, rfl, rfl, Nat.le_refl _, fun _ _ _ => rfl⟩, h, ⟨[], by simp⟩, .inl ⟨rfl, hc, h⟩⟩
/-- A new block beside. -/
theorem Ext.alloc (h : Ext W w g cap xs v out) (o : Obj) : Ext W (w.alloc o) g cap xs v out := by
  have hb := below_alloc (Below.refl w.heap.size w) o
  have hs : (w.alloc o).heap[g]? = w.heap[g]? := hb.block g h.pre.lt
  refine ⟨⟨h.grown.os, h.grown.tape, h.grown.output, by have := h.grown.size; simp; omega, fun k hk hne => (hb.block k (Nat.lt_of_lt_of_le hk h.grown.size)).trans (h.grown.block k hk hne)⟩, h.pre.same hs, h.more, ?_⟩
  rcases h.val with ⟨h0, h1, h2⟩ | h2
  · exact .inl ⟨h0, h1, h2.same hs⟩
  · exact .inr (h2.alloc o)
end
theorem setCells_other (g : Nat) : ∀ (vs : List Value) (o : Nat) (w : World) (k : Nat), k ≠ g → (w.setCells g o vs).heap[k]? = w.heap[k]?
  | [], _, _, _, _ => rfl
  | v :: r, o, w, k, h => by
    rw [World.setCells]
    exact (setCells_other g r (o + 1) _ k h).trans (Below.heap_setCell w ⟨g, o, none⟩ v k h)
/-- Elements are put behind. -/
theorem ext_append {W w : World} {g cap : Nat} {xs out : List Int} {v : Value} {ops : Array Oper} {rest : List Oper} {o : Oper} {a : Act} {Q : Exit → Act → World → Prop} (hgd : o.guard = none) (s x : Operand)
    (ho : o.op = .call { callee := .builtin .append, args := #[s, x], argTypes := #[22, 22] }) (hs : a.eval s = v) (ad : Addr) (m c : Nat) (news : List Int) (hx : a.eval x = .slice (some ad) m c) (hm : news.length = m)
    (hc : ∀ j u, news[j]? = some u → w.cell? (ad.add j) = some (.int .u8 u)) (hE : Ext W w g cap xs v out) (hlt : g < W.heap.size) (hcap : cap ≤ maxLen) (hl : out.length + m ≤ 140737488355328)
    (h : ∀ v' w', Ext W w' g cap xs v' (out ++ news) → wpList Try.prog ops Q rest (a.put o.dst v') w') : wpList Try.prog ops Q (o :: rest) a w := by
  obtain ⟨i0, hi, hzz⟩ := Option.map_eq_some_iff.1 info5
  simp only [Prod.mk.injEq] at hzz
  obtain ⟨hz0, hz1, hz2⟩ := hzz
  have hnews : ∀ j u, (news.map (Value.int .u8))[j]? = some u → w.cell? (ad.add j) = some u := by
    intro j u hj
    rw [List.getElem?_map] at hj
    obtain ⟨y, hy, rfl⟩ := Option.map_eq_some_iff.1 hj
    exact hc j y hy
  have hone : ∀ u ∈ news.map (Value.int .u8), u.oneCell' = true := by intro u hu; obtain ⟨z, _, rfl⟩ := List.mem_map.1 hu; rfl
  have hmx : out.length + m ≤ maxLen := by unfold maxLen; omega
  obtain ⟨ys, hys⟩ := hE.more
  have hmore : ∃ ys, out ++ news = xs ++ ys := ⟨ys ++ news, by rw [hys, List.append_assoc]⟩
  rcases hE.val with ⟨rfl, h1, h2⟩ | h2
  · refine wpList_append_arg w hgd s x 22 ho 5 i0 (.int .u8 0) 1 1 Try.underlying22 hi hz0 hz1 hz2 rfl (by decide) g 0 out.length cap (out.map (Value.int .u8)) hs (by simp) ?_ ad m c (news.map (Value.int .u8)) hx (by simp [hm]) hnews hone ?_ hmx (by omega) ?_ ?_
    · intro j u hj
      rw [List.getElem?_map] at hj
      obtain ⟨y, hy, rfl⟩ := Option.map_eq_some_iff.1 hj
      obtain ⟨hlt2, rfl⟩ := List.getElem?_eq_some_iff.1 hy
      rw [Nat.zero_add, h2.cell hlt2]
      simp [List.getD, hlt2]
    · intro hroom j hj
      obtain ⟨cur, e1, e2, e3⟩ := h2
      rw [List.length_map] at hj
      refine ⟨?_, blk_frozen e1 _⟩
      rw [blk_cell e1]
      simp
      omega
    · intro hroom
      refine h _ _ ?_
      obtain ⟨cur, e1, e2, e3⟩ := h2
      obtain ⟨s1, s2, s3, s4⟩ := setCells_same g (news.map (Value.int .u8)) (0 + out.length * 1) w
      obtain ⟨cur', c1, c2, c3⟩ := setCells_row (news.map (Value.int .u8)) (0 + out.length * 1) w cur e1 (by simp; omega)
      have hpre : Pre (w.setCells g (0 + out.length * 1) (news.map (Value.int .u8))) g cap (out ++ news) := by
        refine ⟨cur', c1, by rw [c2, e2], ?_⟩
        rw [c3, List.map_append, ← e3, List.length_append]
        have e4 : (cur.toList.take (0 + out.length * 1)).length = out.length := by simp; omega
        rw [Nat.zero_add, Nat.mul_one, List.append_assoc, List.take_append]
        simp
        rw [List.take_of_length_le (by simp; omega)]
        have e5 : out.length + news.length - min out.length cur.size = news.length := by omega
        rw [e5]
        simp
      have hpre0 : Pre (w.setCells g (0 + out.length * 1) (news.map (Value.int .u8))) g cap xs := by
        obtain ⟨cur2, d1, d2, d3⟩ := hpre
        refine ⟨cur2, d1, d2, ?_⟩
        rw [hys] at d3
        have := congrArg (List.take xs.length) d3
        simpa [List.take_take, List.map_append, Nat.min_eq_left] using this
      have hother : ∀ k, k < W.heap.size → some k ≠ some g → (w.setCells g (0 + out.length * 1) (news.map (Value.int .u8))).heap[k]? = W.heap[k]? := fun k hk hne =>
        (setCells_other g _ _ w k (fun e => hne (by rw [e]))).trans (hE.grown.block k hk hne)
      exact ⟨⟨s1.trans hE.grown.os, s2.trans hE.grown.tape, s3.trans hE.grown.output, by rw [s4]; exact hE.grown.size, hother⟩, hpre0, hmore, .inl ⟨by rw [List.length_append, hm], by rw [List.length_append]; omega, hpre⟩⟩
    · intro hgrow v' w' how hgr
      refine h v' w' ⟨⟨hgr.os.trans hE.grown.os, hgr.tape.trans hE.grown.tape, hgr.output.trans hE.grown.output, Nat.le_trans hE.grown.size hgr.size, fun k hk hne => (hgr.block k (Nat.lt_of_lt_of_le hk hE.grown.size) (by simp)).trans (hE.grown.block k hk hne)⟩, hE.pre.same (hgr.block g hE.pre.lt (by simp)), hmore, .inr ?_⟩
      rw [List.length_append, List.map_append, hm]
      exact own_weaken how hE.grown.size
  · refine wpList_append_own w hgd s x 22 ho W.heap.size 5 i0 (.int .u8 0) 1 1 Try.underlying22 hi hz0 hz1 hz2 rfl (by decide) v out.length (out.map (Value.int .u8)) hs h2 ad m c (news.map (Value.int .u8)) hx (by simp [hm]) hnews hone hmx (by omega) hE.grown.size ?_
    intro v' w' how hgr _
    have hne : ∀ k, k < W.heap.size → some k ≠ v.ownBlock := fun k hk e => by
      have := own_base h2 k e.symm
      omega
    refine h v' w' ⟨⟨hgr.os.trans hE.grown.os, hgr.tape.trans hE.grown.tape, hgr.output.trans hE.grown.output, Nat.le_trans hE.grown.size hgr.size, fun k hk hn => (hgr.block k (Nat.lt_of_lt_of_le hk hE.grown.size) (hne k hk)).trans (hE.grown.block k hk hn)⟩, hE.pre.same (hgr.block g hE.pre.lt (hne g hlt)), hmore, .inr ?_⟩
    rw [List.length_append, List.map_append, hm]
    exact how
end Go.Proofs.Ytbjnfephigcdkaa.Puts
