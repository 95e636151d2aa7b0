/- bitmap.Read: bytes as a set, or why not (turned from the text for bitmap). -/
import Derived.Test.YtehbkhddbdgbcaaGreatDoorChSet
import Derived.Laws.CopyOwn
import Derived.Test.YtehbkhddbdgbcaaGreatDoorPChunkBackx7
namespace Go.Proofs.YtehbkhddbdgbcaaGreatDoor.Bits
open Go.RowKit Go.Proofs.YtehbkhddbdgbcaaGreatDoorW.PrintWords Go.Proofs.YtehbkhddbdgbcaaGreatDoorW.PrintLast Go.Proofs.YtehbkhddbdgbcaaGreatDoorW.PrintMore Go.Proofs.YtehbkhddbdgbcaaGreatDoor.PChunkBack
attribute [local go_sem] max2_int min2_int max_two min_two max_three min_three max_four min_four
set_option linter.unusedVariables false
set_option linter.unusedSimpArgs false
def unp (l : List Int) (n : Nat) : List Bool := (List.range n).map fun i => (l.getD (i / 8) 0) / 2 ^ (i % 8) % 2 == 1
/-- Why bytes are no marks of n places (0: they are). -/
def readErr (l : List Int) (n : Int) : Int :=
  if n < 0 ∨ 65536 < n then 1 else if (l.length : Int) < (n + 7) / 8 then 2 else if (n + 7) / 8 < (l.length : Int) then 3
  else if n % 8 ≠ 0 ∧ l.getD (l.length - 1) 0 / 2 ^ (n % 8).toNat ≠ 0 then 4 else 0
theorem C_cells {W : World} {A : Option Addr} {l : List Int} (h : (Kd.int .u8).C W A l.length l) (hpos : 0 < l.length) : ∃ ad, A = some ad ∧ ∀ j (hj : j < l.length), W.cell? (ad.add j) = some (.int .u8 (l.getD j 0)) := by
  obtain ⟨h1, h2, hc⟩ := h
  obtain ⟨ad, hA, hd⟩ := hc hpos
  refine ⟨ad, hA, fun j hj => ?_⟩
  obtain ⟨c, hl, hR, hu⟩ := hd j l[j] (by simp [hj])
  have e : c = [.int .u8 l[j]] := hR
  subst e
  have := hu 0 _ rfl
  simpa [Kd.int, Kd.scalar, List.getD, hj] using this
set_option maxHeartbeats 4000000 in
set_option maxRecDepth 100000 in
theorem Read_arg (W : World) (A : Option Addr) (l : List Int) (c : Nat) (n : Int) (hn : n < 0 ∨ 65536 < n) : Calls Tryz.prog 34 #[.slice A l.length c, .int .i64 n] W fun e w' => e = .returned (.tuple #[.pointer none, .int .i64 1]) ∧ W = w' := by
  go_enter Tryz.func34, Tryz.ntmps34
  go_wp2_with (go_at_call 32; refine (New_none _ _ hn).mono ?_; rintro e w' ⟨rfl, rfl⟩)
  go_ret2
  exact ⟨rfl, rfl⟩
theorem byte_bits : ∀ v : Fin 256, byteOf ((v.1 : Int) / 2 ^ 0 % 2 == 1) ((v.1 : Int) / 2 ^ 1 % 2 == 1) ((v.1 : Int) / 2 ^ 2 % 2 == 1) ((v.1 : Int) / 2 ^ 3 % 2 == 1) ((v.1 : Int) / 2 ^ 4 % 2 == 1) ((v.1 : Int) / 2 ^ 5 % 2 == 1) ((v.1 : Int) / 2 ^ 6 % 2 == 1) ((v.1 : Int) / 2 ^ 7 % 2 == 1) = v.1 := by
  decide +kernel
theorem high_zero : ∀ (v : Fin 256) (r q : Fin 8), r.1 ≤ q.1 → (v.1 : Int) / 2 ^ r.1 = 0 → ((v.1 : Int) / 2 ^ q.1 % 2 == 1) = false := by
  decide +kernel
theorem unp_get (l : List Int) (n : Nat) (hw : ∀ v ∈ l, 0 ≤ v ∧ v < 256) (hl : l.length = (n + 7) / 8) (he : readErr l n = 0) (k q : Nat) (hk : k < l.length) (hq : q < 8) : (unp l n).getD (8 * k + q) false = (l.getD k 0 / 2 ^ q % 2 == 1) := by
  unfold unp
  by_cases h : 8 * k + q < n
  · simp only [List.getD, List.getElem?_map, List.getElem?_range h, Option.map_some, Option.getD_some]
    rw [show (8 * k + q) / 8 = k from by omega, show (8 * k + q) % 8 = q from by omega]
  · have hk2 : k = l.length - 1 := by omega
    have hz : l.getD (l.length - 1) 0 / 2 ^ (n % 8) = 0 := by
      unfold readErr at he
      have h1 : ¬ ((n : Int) < 0 ∨ 65536 < (n : Int)) := by intro h1; rw [if_pos h1] at he; cases he
      rw [if_neg h1, if_neg (by omega), if_neg (by omega)] at he
      by_cases h2 : (n : Int) % 8 ≠ 0 ∧ l.getD (l.length - 1) 0 / 2 ^ ((n : Int) % 8).toNat ≠ 0
      · rw [if_pos h2] at he; cases he
      · rw [show ((n : Int) % 8).toNat = n % 8 from by omega] at h2
        apply Classical.byContradiction
        intro h3
        exact h2 ⟨by omega, h3⟩
    rw [← hk2] at hz
    have hv := hw (l.getD k 0) (by simp [List.getD, hk])
    obtain ⟨v, hv2⟩ := Int.eq_ofNat_of_zero_le hv.1
    have := high_zero ⟨v, by omega⟩ ⟨n % 8, by omega⟩ ⟨q, hq⟩ (by simp only; omega) (by simp only; rw [← hv2]; exact hz)
    rw [hv2]
    rw [show ((v : Int) / 2 ^ q % 2 == 1) = false from this]
    simp [List.getD, h]
theorem pack_unp (l : List Int) (n : Nat) (hw : ∀ v ∈ l, 0 ≤ v ∧ v < 256) (hl : l.length = (n + 7) / 8) (he : readErr l n = 0) : pack (unp l n) = l := by
  have hn : (unp l n).length = n := by simp [unp]
  apply List.ext_getElem
  · rw [pack_len, hn, hl]
  · intro k h1 h2
    simp only [pack, List.getElem_map, List.getElem_range]
    have e := fun q hq => unp_get l n hw hl he k q h2 hq
    have e0 := e 0 (by omega)
    rw [Nat.add_zero] at e0
    unfold byteAt
    rw [e0, e 1 (by omega), e 2 (by omega), e 3 (by omega), e 4 (by omega), e 5 (by omega), e 6 (by omega), e 7 (by omega)]
    have hg : l.getD k 0 = l[k] := by simp [List.getD, h2]
    have hv := hw l[k] (List.getElem_mem h2)
    obtain ⟨v, hv2⟩ := Int.eq_ofNat_of_zero_le hv.1
    rw [hg, hv2]
    exact byte_bits ⟨v, by omega⟩
theorem copy_whole {P : Program} {w : World} {ops : Array Oper} {rest : List Oper} {o : Oper} {a : Act} {Q : Exit → Act → World → Prop} (hgd : o.guard = none) (d s : Operand) (dT sT : TypeId)
    (ho : o.op = .call { callee := .builtin .copy, args := #[d, s], argTypes := #[dT, sT] }) (elem : TypeId) (hu : P.underlying dT = some (.slice elem)) (hsz : (P.info? elem).map (·.size) = some 1)
    (dp sp : Option Addr) (dLen dCap sLen sCap : Nat) (hd : a.eval d = .slice dp dLen dCap) (hs : a.eval s = .slice sp sLen sCap)
    (g : Nat) (cur : List Value) (t : TypeId) (hg : w.heap[g]? = some (.cells cur.toArray t (0, 0))) (cs : List Value) (hn : cs.length = sLen) (hn2 : dLen = sLen) (hfit : cs.length = cur.length)
    (hpos : 0 < cs.length → dp = some ⟨g, 0, none⟩ ∧ ∃ ad, sp = some ad ∧ ∀ j v, cs[j]? = some v → w.cell? (ad.add j) = some v)
    (h1 : ∀ v ∈ cs, v.oneCell' = true) (B : Nat) (w0 : World) (hb : Below B w0 w) (hBg : B ≤ g)
    (h : ∀ w', Aside0 (w'.heap[g]? = some (.cells cs.toArray t (0, 0))) → Aside0 (∀ k, k ≠ g → w'.heap[k]? = w.heap[k]?) → Aside0 (Below B w0 w') → wpList P ops Q rest (a.put o.dst (goInt cs.length)) w') :
    wpList P ops Q (o :: rest) a w := by
  by_cases h0 : cs.length = 0
  · obtain rfl : cs = [] := List.eq_nil_of_length_eq_zero h0
    obtain rfl : cur = [] := List.eq_nil_of_length_eq_zero hfit.symm
    refine wpList_copy_nothing hgd d s dT sT ho elem hu hsz dp sp dLen dCap sLen sCap hd hs (by rw [hn2, ← hn]; rfl) ?_
    exact h w ⟨hg⟩ ⟨fun _ _ => rfl⟩ ⟨hb⟩
  · obtain ⟨rfl, ad, rfl, hsrc⟩ := hpos (by omega)
    refine wpList_copy_own hgd d s dT sT ho elem hu hsz g 0 dLen dCap ad sLen sCap hd hs cur.toArray t hg cs (by rw [hn, hn2]; exact (Nat.min_self _).symm) hsrc (by simp; omega) h1 ?_
    have e : (cur.toArray.toList.take 0 ++ (cs ++ cur.toArray.toList.drop (0 + cs.length))).toArray = cs.toArray := by simp [hfit]
    rw [e]
    exact h _ ⟨setRow_heap w g _ _ t _ hg⟩ ⟨fun k hk => setRow_other w g k _ hk⟩ ⟨below_setRow hb hBg _⟩
theorem blk_of_cell {W : World} {p : Addr} {v : Value} (h : W.cell? p = some v) : p.block < W.heap.size := by
  apply Classical.byContradiction
  intro hn
  have : W.heap[p.block]? = none := by simp; omega
  simp [World.cell?, this] at h
set_option maxHeartbeats 4000000 in
set_option maxRecDepth 100000 in
theorem Read_ok0 (W : World) (A : Option Addr) (l : List Int) (c : Nat) (n : Nat) (hn : n ≤ 65536) (hr : (Kd.int .u8).C W A l.length l) (hl : l.length = (n + 7) / 8) (h8 : n % 8 = 0) : Calls Tryz.prog 34 #[.slice A l.length c, .int .i64 n] W fun e w' => ∃ g b, e = .returned (.tuple #[.pointer (some ⟨g, 0, none⟩), .int .i64 0]) ∧ w'.heap[g]? = some (.cells #[.int .i64 n, .slice (some ⟨b, 0, none⟩) ((n + 7) / 8) ((n + 7) / 8)] 90 (0, 0)) ∧ w'.heap[b]? = some (.cells (l.map (Value.int .u8)).toArray 5 (0, 0)) ∧ W.heap.size ≤ g ∧ W.heap.size ≤ b ∧ Below W.heap.size W w' := by
  have hN := New_some n W hn
  have h8' : (n : Int) % 8 = 0 := by omega
  have HL := Aside0.mk hl
  have HR := Aside0.mk hr
  clear hr
  generalize hm : l.length = m at *
  have HM := Aside0.mk hm
  clear hm
  subst hl
  go_enter Tryz.func34, Tryz.ntmps34
  go_wp2_with (first | (go_at_call 32; refine (hN).mono ?_; rintro e w' ⟨g, b, rfl, hS, hg, hb, hB⟩; have hh : w'.cell? ⟨g, 1, none⟩ = some (.slice (some ⟨b, 0, none⟩) ((n + 7) / 8) ((n + 7) / 8)) := by (have := blk_cell hS.head 1; simpa using this)) | (refine copy_whole rfl (.tmp 50) (.tmp 51) 25 25 rfl 5 Tryz.underlying25 (by kernel_rfl) _ _ _ _ _ _ rfl rfl b ((pack (List.replicate n false)).map (Value.int .u8)) 5 hS.row (l.map (Value.int .u8)) ?c2 ?c2b ?c3 ?c4 ?c5 W.heap.size W hB hb ?_))
  case c2 => rw [List.length_map, HM.out]
  case c2b => rfl
  case c3 => rw [List.length_map, List.length_map, HM.out, pack_len, List.length_replicate]
  case c4 =>
    intro hpos
    obtain ⟨ad, hA, hc⟩ := C_cells (HM.out.symm ▸ HR.out) hpos
    refine ⟨ad, hA, fun j v hj => ?_⟩
    obtain ⟨hlt, he⟩ := List.getElem?_eq_some_iff.1 hj
    have h0 := hc j hlt
    have hbl : (ad.add j).block < W.heap.size := blk_of_cell h0
    rw [hB.cell (p := ad.add j) hbl, h0]
    simp [List.getD, hlt, he]
  case c5 => intro v hv; obtain ⟨z, _, rfl⟩ := List.mem_map.1 hv; rfl
  intro w2 h1 h2 h3
  clear hh
  go_wp2
  go_ret2
  exact ⟨g, b, rfl, (h2.out g (blk_ne hS.head hS.row (by decide))).trans (by have := hS.head; simpa using this), h1.out, hg, hb, h3.out⟩
set_option maxHeartbeats 4000000 in
set_option maxRecDepth 100000 in
theorem Read_ok1 (W : World) (A : Option Addr) (l : List Int) (c : Nat) (n : Nat) (hn : n ≤ 65536) (hr : (Kd.int .u8).C W A l.length l) (hl : l.length = (n + 7) / 8) (h8 : n % 8 ≠ 0) (hw : ∀ v ∈ l, 0 ≤ v ∧ v < 256) (hz : l.getD (l.length - 1) 0 / 2 ^ (n % 8) = 0) : Calls Tryz.prog 34 #[.slice A l.length c, .int .i64 n] W fun e w' => ∃ g b, e = .returned (.tuple #[.pointer (some ⟨g, 0, none⟩), .int .i64 0]) ∧ w'.heap[g]? = some (.cells #[.int .i64 n, .slice (some ⟨b, 0, none⟩) ((n + 7) / 8) ((n + 7) / 8)] 90 (0, 0)) ∧ w'.heap[b]? = some (.cells (l.map (Value.int .u8)).toArray 5 (0, 0)) ∧ W.heap.size ≤ g ∧ W.heap.size ≤ b ∧ Below W.heap.size W w' := by
  have hN := New_some n W hn
  have h8' : ¬ (n : Int) % 8 = 0 := by omega
  obtain ⟨ad, rfl, hC⟩ := C_cells hr (by omega)
  have hC := hC (l.length - 1) (by omega)
  have hbl : (ad.add (l.length - 1)).block < W.heap.size := blk_of_cell hC
  have hv := hw (l.getD (l.length - 1) 0) (by simp only [List.getD]; rw [List.getElem?_eq_getElem (by omega)]; exact List.getElem_mem _)
  clear hw
  generalize hvd : l.getD (l.length - 1) 0 = v at *
  have hz1 : (v / 2 ^ (n % 8) != 0) = false := by rw [hz]; rfl
  have hn1 : ((n : Int) % 8 != 0) = true := by rw [bne_iff_ne]; omega
  have HVD := Aside0.mk hvd
  clear hvd
  have HL := Aside0.mk hl
  have HR := Aside0.mk hr
  clear hr
  generalize hm : l.length = m at *
  have HM := Aside0.mk hm
  clear hm
  subst hl
  go_enter Tryz.func34, Tryz.ntmps34
  go_wp2_with (first | (go_at_call 32; refine (hN).mono ?_; rintro e w' ⟨g, b, rfl, hS, hg, hb, hB⟩; have hh : w'.cell? ⟨g, 1, none⟩ = some (.slice (some ⟨b, 0, none⟩) ((n + 7) / 8) ((n + 7) / 8)) := (by (have := blk_cell hS.head 1; simpa using this)); have hcl := (hB.cell (p := ad.add ((n + 7) / 8 - 1)) hbl).trans hC) | (refine copy_whole rfl (.tmp 50) (.tmp 51) 25 25 rfl 5 Tryz.underlying25 (by kernel_rfl) _ _ _ _ _ _ rfl rfl b ((pack (List.replicate n false)).map (Value.int .u8)) 5 hS.row (l.map (Value.int .u8)) ?c2 ?c2b ?c3 ?c4 ?c5 W.heap.size W hB hb ?_))
  case c2 => rw [List.length_map, HM.out]
  case c2b => rfl
  case c3 => rw [List.length_map, List.length_map, HM.out, pack_len, List.length_replicate]
  case c4 =>
    intro hpos
    obtain ⟨ad', hA, hc⟩ := C_cells (HM.out.symm ▸ HR.out) hpos
    obtain rfl : ad = ad' := by injection hA
    intro j v hj
    obtain ⟨hlt, he⟩ := List.getElem?_eq_some_iff.1 hj
    have h0 := hc j hlt
    have hbl : (ad.add j).block < W.heap.size := blk_of_cell h0
    rw [hB.cell (p := ad.add j) hbl, h0]
    simp [List.getD, hlt, he]
  case c5 => intro v hv; obtain ⟨z, _, rfl⟩ := List.mem_map.1 hv; rfl
  intro w2 h1 h2 h3
  clear hh
  go_wp2
  go_ret2
  exact ⟨g, b, rfl, (h2.out g (blk_ne hS.head hS.row (by decide))).trans (by have := hS.head; simpa using this), h1.out, hg, hb, h3.out⟩
set_option maxHeartbeats 4000000 in
set_option maxRecDepth 100000 in
theorem Read_bad4 (W : World) (A : Option Addr) (l : List Int) (c : Nat) (n : Nat) (hn : n ≤ 65536) (hr : (Kd.int .u8).C W A l.length l) (hl : l.length = (n + 7) / 8) (h8 : n % 8 ≠ 0) (hw : ∀ v ∈ l, 0 ≤ v ∧ v < 256) (hz : l.getD (l.length - 1) 0 / 2 ^ (n % 8) ≠ 0) : Calls Tryz.prog 34 #[.slice A l.length c, .int .i64 n] W fun e w' => e = .returned (.tuple #[.pointer none, .int .i64 4]) ∧ Below W.heap.size W w' := by
  have hN := New_some n W hn
  have h8' : ¬ (n : Int) % 8 = 0 := by omega
  obtain ⟨ad, rfl, hC⟩ := C_cells hr (by omega)
  have hC := hC (l.length - 1) (by omega)
  have hbl : (ad.add (l.length - 1)).block < W.heap.size := blk_of_cell hC
  have hv := hw (l.getD (l.length - 1) 0) (by simp only [List.getD]; rw [List.getElem?_eq_getElem (by omega)]; exact List.getElem_mem _)
  clear hw
  generalize hvd : l.getD (l.length - 1) 0 = v at *
  have hz1 : (v / 2 ^ (n % 8) != 0) = true := by rw [bne_iff_ne]; exact hz
  have hn1 : ((n : Int) % 8 != 0) = true := by rw [bne_iff_ne]; omega
  have HVD := Aside0.mk hvd
  clear hvd
  have HL := Aside0.mk hl
  have HR := Aside0.mk hr
  clear hr
  generalize hm : l.length = m at *
  have HM := Aside0.mk hm
  clear hm
  subst hl
  go_enter Tryz.func34, Tryz.ntmps34
  go_wp2_with (first | (go_at_call 32; refine (hN).mono ?_; rintro e w' ⟨g, b, rfl, hS, hg, hb, hB⟩; have hh : w'.cell? ⟨g, 1, none⟩ = some (.slice (some ⟨b, 0, none⟩) ((n + 7) / 8) ((n + 7) / 8)) := (by (have := blk_cell hS.head 1; simpa using this)); have hcl := (hB.cell (p := ad.add ((n + 7) / 8 - 1)) hbl).trans hC))
  go_ret2
  exact ⟨rfl, hB⟩
set_option maxHeartbeats 4000000 in
set_option maxRecDepth 100000 in
theorem Read_bad2 (W : World) (A : Option Addr) (m : Nat) (c : Nat) (n : Nat) (hn : n ≤ 65536) (hl : m < (n + 7) / 8) : Calls Tryz.prog 34 #[.slice A m c, .int .i64 n] W fun e w' => e = .returned (.tuple #[.pointer none, .int .i64 2]) ∧ Below W.heap.size W w' := by
  have hN := New_some n W hn
  have hl' : (m : Int) < ((n : Int) + 7) / 8 := by omega
  go_enter Tryz.func34, Tryz.ntmps34
  go_wp2_with (go_at_call 32; refine (hN).mono ?_; rintro e w' ⟨g, b, rfl, hS, hg, hb, hB⟩; have hh : w'.cell? ⟨g, 1, none⟩ = some (.slice (some ⟨b, 0, none⟩) ((n + 7) / 8) ((n + 7) / 8)) := (by (have := blk_cell hS.head 1; simpa using this)))
  go_ret2
  exact ⟨rfl, hB⟩
set_option maxHeartbeats 4000000 in
set_option maxRecDepth 100000 in
theorem Read_bad3 (W : World) (A : Option Addr) (m : Nat) (c : Nat) (n : Nat) (hn : n ≤ 65536) (hl : (n + 7) / 8 < m) : Calls Tryz.prog 34 #[.slice A m c, .int .i64 n] W fun e w' => e = .returned (.tuple #[.pointer none, .int .i64 3]) ∧ Below W.heap.size W w' := by
  have hN := New_some n W hn
  have hl' : ((n : Int) + 7) / 8 < (m : Int) := by omega
  go_enter Tryz.func34, Tryz.ntmps34
  go_wp2_with (go_at_call 32; refine (hN).mono ?_; rintro e w' ⟨g, b, rfl, hS, hg, hb, hB⟩; have hh : w'.cell? ⟨g, 1, none⟩ = some (.slice (some ⟨b, 0, none⟩) ((n + 7) / 8) ((n + 7) / 8)) := (by (have := blk_cell hS.head 1; simpa using this)))
  go_ret2
  exact ⟨rfl, hB⟩
/-- What Read hands back: a set that shows the bytes' marks; or none, and why. -/
def ReadPost (W : World) (l : List Int) (n : Int) (e : Ending) (w' : World) : Prop :=
  if readErr l n = 0 then ∃ g b, e = .returned (.tuple #[.pointer (some ⟨g, 0, none⟩), .int .i64 0]) ∧ IsSet w' g b (unp l n.toNat) ∧ l = pack (unp l n.toNat) ∧ 0 ≤ n ∧ n ≤ 65536 ∧ W.heap.size ≤ g ∧ W.heap.size ≤ b ∧ Below W.heap.size W w'
  else e = .returned (.tuple #[.pointer none, .int .i64 (readErr l n)]) ∧ Below W.heap.size W w'
set_option maxRecDepth 100000 in
theorem Read_any (W : World) (A : Option Addr) (l : List Int) (c : Nat) (n : Int) (hr : (Kd.int .u8).C W A l.length l) (hw : ∀ v ∈ l, 0 ≤ v ∧ v < 256) : Calls Tryz.prog 34 #[.slice A l.length c, .int .i64 n] W (ReadPost W l n) := by
  by_cases h1 : n < 0 ∨ 65536 < n
  · have e : readErr l n = 1 := by unfold readErr; rw [if_pos h1]
    refine (Read_arg W A l c n h1).mono ?_
    rintro e2 w' ⟨rfl, rfl⟩
    unfold ReadPost
    rw [e, if_neg (by decide)]
    exact ⟨rfl, Below.refl _ _⟩
  · obtain ⟨m, rfl⟩ := Int.eq_ofNat_of_zero_le (show 0 ≤ n by omega)
    have hm : m ≤ 65536 := by omega
    by_cases h2 : (l.length : Int) < ((m : Int) + 7) / 8
    · have e : readErr l m = 2 := by unfold readErr; rw [if_neg h1, if_pos h2]
      refine (Read_bad2 W A l.length c m hm (by omega)).mono ?_
      rintro e2 w' ⟨rfl, hB⟩
      unfold ReadPost
      rw [e, if_neg (by decide)]
      exact ⟨rfl, hB⟩
    · by_cases h3 : ((m : Int) + 7) / 8 < (l.length : Int)
      · have e : readErr l m = 3 := by unfold readErr; rw [if_neg h1, if_neg h2, if_pos h3]
        refine (Read_bad3 W A l.length c m hm (by omega)).mono ?_
        rintro e2 w' ⟨rfl, hB⟩
        unfold ReadPost
        rw [e, if_neg (by decide)]
        exact ⟨rfl, hB⟩
      · have hl : l.length = (m + 7) / 8 := by omega
        by_cases h4 : (m : Int) % 8 ≠ 0 ∧ l.getD (l.length - 1) 0 / 2 ^ ((m : Int) % 8).toNat ≠ 0
        · have e : readErr l m = 4 := by unfold readErr; rw [if_neg h1, if_neg h2, if_neg h3, if_pos h4]
          rw [show ((m : Int) % 8).toNat = m % 8 from by omega] at h4
          refine (Read_bad4 W A l c m hm hr hl (by omega) hw h4.2).mono ?_
          rintro e2 w' ⟨rfl, hB⟩
          unfold ReadPost
          rw [e, if_neg (by decide)]
          exact ⟨rfl, hB⟩
        · have e : readErr l m = 0 := by unfold readErr; rw [if_neg h1, if_neg h2, if_neg h3, if_neg h4]
          have hp := pack_unp l m hw hl e
          have hlen : (unp l m).length = m := by simp [unp]
          have fin : ∀ e2 w', (∃ g b, e2 = .returned (.tuple #[.pointer (some ⟨g, 0, none⟩), .int .i64 0]) ∧ w'.heap[g]? = some (.cells #[.int .i64 m, .slice (some ⟨b, 0, none⟩) ((m + 7) / 8) ((m + 7) / 8)] 90 (0, 0)) ∧ w'.heap[b]? = some (.cells (l.map (Value.int .u8)).toArray 5 (0, 0)) ∧ W.heap.size ≤ g ∧ W.heap.size ≤ b ∧ Below W.heap.size W w') → ReadPost W l m e2 w' := by
            rintro e2 w' ⟨g, b, rfl, hg, hb, h5, h6, hB⟩
            unfold ReadPost
            rw [e, if_pos rfl]
            exact ⟨g, b, rfl, ⟨by rw [show ((m : Int).toNat) = m from rfl, hlen]; exact hg, by rw [show ((m : Int).toNat) = m from rfl, hp]; exact hb, by rw [show ((m : Int).toNat) = m from rfl, hlen]; exact hm⟩, hp.symm, by omega, by omega, h5, h6, hB⟩
          by_cases h8 : m % 8 = 0
          · exact (Read_ok0 W A l c m hm hr hl h8).mono (fun e2 w' h => fin e2 w' h)
          · rw [show ((m : Int) % 8).toNat = m % 8 from by omega] at h4
            exact (Read_ok1 W A l c m hm hr hl h8 hw (Classical.byContradiction fun h => h4 ⟨by omega, h⟩)).mono (fun e2 w' h => fin e2 w' h)
/-- A byte's first bits. -/
def ps (x : List Bool) (k : Nat) : Nat → Int
  | 0 => 0
  | q + 1 => ps x k q + (if x.getD (8 * k + q) false then 2 ^ q else 0)
theorem ps_bd (x : List Bool) (k : Nat) : ∀ q, 0 ≤ ps x k q ∧ ps x k q < 2 ^ q := by
  intro q
  induction q with
  | zero => exact ⟨Int.le_refl _, show (0 : Int) < 2 ^ 0 by decide⟩
  | succ q ih =>
    have hp : (2 : Int) ^ (q + 1) = 2 * 2 ^ q := by rw [Int.pow_succ]; omega
    unfold ps
    rw [hp]
    generalize (2 : Int) ^ q = p at *
    split <;> omega
theorem ps_8 (x : List Bool) (k : Nat) : ps x k 8 = byteAt x k := by
  unfold byteAt byteOf
  simp only [ps, Nat.add_zero]
  cases x.getD (8 * k) false <;> cases x.getD (8 * k + 1) false <;> cases x.getD (8 * k + 2) false <;> cases x.getD (8 * k + 3) false <;> cases x.getD (8 * k + 4) false <;> cases x.getD (8 * k + 5) false <;> cases x.getD (8 * k + 6) false <;> cases x.getD (8 * k + 7) false <;> rfl
theorem ps_end (x : List Bool) (k q : Nat) (h : x.length ≤ 8 * k + q) : ∀ d, ps x k (q + d) = ps x k q := by
  intro d
  induction d with
  | zero => rfl
  | succ d ih =>
    have e : ps x k (q + (d + 1)) = ps x k (q + d) + (if x.getD (8 * k + (q + d)) false then 2 ^ (q + d) else 0) := rfl
    rw [e, ih]
    have hx : x.getD (8 * k + (q + d)) false = false := by
      rw [List.getD, List.getElem?_eq_none (by omega)]; rfl
    rw [hx]
    simp
theorem byte_small (x : List Bool) (k r : Nat) (hx : x.length ≤ 8 * k + r) (hr : r ≤ 8) : 0 ≤ byteAt x k ∧ byteAt x k < 2 ^ r := by
  have h := ps_end x k r hx (8 - r)
  rw [show r + (8 - r) = 8 from by omega, ps_8] at h
  rw [h]
  exact ps_bd x k r
theorem pack_get (x : List Bool) (k : Nat) (hk : k < (x.length + 7) / 8) : (pack x).getD k 0 = byteAt x k := by simp [pack, List.getD, hk]
theorem readErr_pack (x : List Bool) (hx : x.length ≤ 65536) : readErr (pack x) x.length = 0 := by
  unfold readErr
  rw [if_neg (by omega), pack_len, if_neg (by omega), if_neg (by omega), if_neg]
  rintro ⟨h1, h2⟩
  apply h2
  have hk : (x.length + 7) / 8 - 1 < (x.length + 7) / 8 := by omega
  rw [pack_get x _ hk, show ((x.length : Int) % 8).toNat = x.length % 8 from by omega]
  have hb := byte_small x ((x.length + 7) / 8 - 1) (x.length % 8) (by omega) (by omega)
  exact Int.ediv_eq_zero_of_lt hb.1 hb.2
theorem bit2_of : ∀ (r : Fin 8) (a b c d e f g h : Bool), (byteOf a b c d e f g h / 2 ^ r.1 % 2 == 1) = (bits BinOp.and IntKind.u8 (byteOf a b c d e f g h / 2 ^ r.1) 1 == 1) := by
  decide +kernel
theorem unp_pack (x : List Bool) : unp (pack x) x.length = x := by
  unfold unp
  apply List.ext_getElem
  · simp
  · intro i h1 h2
    have hk : i / 8 < (x.length + 7) / 8 := by omega
    rw [List.getElem_map, List.getElem_range, pack_get x _ hk]
    have h := bit_at x i
    have h' := bit2_of ⟨i % 8, by omega⟩ (x.getD (8 * (i / 8)) false) (x.getD (8 * (i / 8) + 1) false) (x.getD (8 * (i / 8) + 2) false) (x.getD (8 * (i / 8) + 3) false) (x.getD (8 * (i / 8) + 4) false) (x.getD (8 * (i / 8) + 5) false) (x.getD (8 * (i / 8) + 6) false) (x.getD (8 * (i / 8) + 7) false)
    refine Eq.trans h' ?_
    refine Eq.trans h ?_
    simp [List.getD, h2]
theorem pack_bd (x : List Bool) : ∀ v ∈ pack x, 0 ≤ v ∧ v < 256 := by
  intro v hv
  obtain ⟨k, _, rfl⟩ := List.mem_map.1 hv
  have h := ps_bd x k 8
  rw [ps_8] at h
  exact h
theorem Read_pack (W : World) (A : Option Addr) (c : Nat) (x : List Bool) (hr : (Kd.int .u8).C W A (pack x).length (pack x)) (hx : x.length ≤ 65536) :
    Calls Tryz.prog 34 #[.slice A (pack x).length c, .int .i64 x.length] W fun e w' => ∃ g b, e = .returned (.tuple #[.pointer (some ⟨g, 0, none⟩), .int .i64 0]) ∧ IsSet w' g b x ∧ W.heap.size ≤ g ∧ W.heap.size ≤ b ∧ Below W.heap.size W w' := by
  refine (Read_any W A (pack x) c x.length hr (pack_bd x)).mono ?_
  intro e w' h
  unfold ReadPost at h
  rw [if_pos (readErr_pack x hx)] at h
  obtain ⟨g, b, rfl, hS, _, _, _, h1, h2, h3⟩ := h
  rw [show (x.length : Int).toNat = x.length from rfl, unp_pack] at hS
  exact ⟨g, b, rfl, hS, h1, h2, h3⟩
end Go.Proofs.YtehbkhddbdgbcaaGreatDoor.Bits
namespace Go.Proofs.YtehbkhddbdgbcaaGreatDoor.Ch
open Go.RowKit Go.Proofs.YtehbkhddbdgbcaaGreatDoorW.PrintWords Go.Proofs.YtehbkhddbdgbcaaGreatDoorW.PrintLast Go.Proofs.YtehbkhddbdgbcaaGreatDoorW.PrintMore Go.Proofs.YtehbkhddbdgbcaaGreatDoor.PChunkBack Go.Proofs.YtehbkhddbdgbcaaGreatDoor.Bits
attribute [local go_sem] max2_int min2_int max_two min_two max_three min_three max_four min_four
set_option linter.unusedVariables false
set_option linter.unusedSimpArgs false
theorem IsSet.keepR {W W' : World} {gs bs g : Nat} {x : List Bool} (h : IsSet W gs bs x) (hk : KeepBut W W' g none) (h1 : gs ≠ g) (h2 : bs ≠ g) : IsSet W' gs bs x :=
  ⟨(hk.2 gs (blk_lt h.head) h1 (by simp)).trans h.head, (hk.2 bs (blk_lt h.row) h2 (by simp)).trans h.row, h.le⟩
theorem fix_at (k : Nat) (b : List Int) (i : Nat) (y : Int) (hi : b[i]? = some y) (hy : 0 ≤ y ∧ y < 256) (hl : b.length ≤ 140737488355328) : num_Reader_Fix.f k b i 0 0 1 = some (y, ((i + 1 : Nat) : Int), 0, 0) := by
  obtain ⟨hlt, hg⟩ := List.getElem?_eq_some_iff.1 hi
  have ht : (b.drop i).take (Int.toNat 1) = [y] := by rw [List.drop_eq_getElem_cons hlt, hg]; rfl
  unfold num_Reader_Fix.f num_Reader_Take.f
  rw [if_pos rfl, if_pos ⟨by omega, by omega, by omega⟩, if_neg (by omega), if_neg (by omega), if_neg (by omega), Int.toNat_natCast, ht]
  show (if 0 ≤ y ∧ y < 256 then some (y, (i : Int) + 1, 0, 0) else none) = _
  rw [if_pos hy]
  rfl
set_option maxRecDepth 100000 in
set_option maxHeartbeats 8000000 in
theorem front_no (w0 w : World) (g n : Nat) (y : Int) (rest : List Int) (hI : IsS73 w0 w g (0 :: y :: rest) 0 0 0) (hB : Below w0.heap.size w0 w) (hn : n ≤ 65536) (hy : 0 ≤ y ∧ y < 256) (hl : rest.length ≤ 1000000000) :
    Calls Tryz.prog 19 #[.pointer (some ⟨g, 0, none⟩), .int .i64 n] w fun e w' => ∃ gs bs, e = .returned (.tuple #[.pointer (some ⟨gs, 0, none⟩), .int .i64 y, .int .i64 0]) ∧ IsSet w' gs bs (List.replicate n false) ∧ IsS73 w0 w' g (0 :: y :: rest) 2 0 0 ∧ Below w0.heap.size w0 w' := by
  have hN := Aside0.mk (New_some n w hn)
  have hlt := hI.lt
  have f1 := fix_at 0 (0 :: y :: rest) 0 0 rfl ⟨by omega, by omega⟩ (by simp; omega)
  have f2 := fix_at 0 (0 :: y :: rest) 1 y rfl hy (by simp; omega)
  have F1 := Aside0.mk f1
  have F2 := Aside0.mk f2
  have I0 := Aside0.mk hI
  have B0 := Aside0.mk hB
  have HL := Aside0.mk hl
  clear f1 f2 hI hB hl
  generalize hbb : (0 :: y :: rest) = bb at *
  clear hbb
  go_enter Tryz.func19, Tryz.ntmps19
  go_wp2_with (first
    | (go_at_call 32; (with_reducible refine hN.out.mono ?_); rintro e w1 ⟨gs, bs, rfl, hS, hg, hb, hb1⟩; have S1 := Aside0.mk hS; have I1 := Aside0.mk (I0.out.below hb1); have B1 := Aside0.mk (below_step B0.out hb1); have ne1 : gs ≠ g := (by omega); have ne2 : bs ≠ g := (by omega); clear hS hb1 I0 B0 hN)
    | (go_at_call 33; (with_reducible refine (num_Reader_Fix.calls 0 g bb 0 0 0 1 _ _ _ _ w0 _ I1.out B1.out F1.out).mono ?_); rintro e w2 ⟨rfl, hI2, hB2, hK2⟩; have S2 := Aside0.mk (IsSet.keepR S1.out hK2 ne1 ne2); have I2 := Aside0.mk hI2; have B2 := Aside0.mk hB2; clear hI2 hB2 hK2 I1 B1 S1)
    | (go_at_call 33; (with_reducible refine (num_Reader_Fix.calls 0 g bb 1 0 0 1 _ _ _ _ w0 _ I2.out B2.out F2.out).mono ?_); rintro e w3 ⟨rfl, hI3, hB3, hK3⟩; have S3 := Aside0.mk (IsSet.keepR S2.out hK3 ne1 ne2); have I3 := Aside0.mk hI3; have B3 := Aside0.mk hB3; clear hI3 hB3 hK3 I2 B2 S2)
    | (go_at_call 35; (with_reducible refine (num_Reader_Err.calls g bb 2 0 0 _ _ _ _ _ w0 _ I3.out B3.out rfl).mono ?_); rintro e w4 ⟨rfl, hI4, hB4, hK4⟩; have S4 := Aside0.mk (IsSet.keepR S3.out hK4 ne1 ne2); have I4 := Aside0.mk hI4; have B4 := Aside0.mk hB4; clear hI4 hB4 hK4 I3 B3 S3))
  refine bodyPost_ret (results_tmp3 rfl _ _ _) rfl ?_
  exact ⟨gs, bs, rfl, S4.out, I4.out, B4.out⟩
theorem take_at (b : List Int) (i m : Nat) (hi : i + m ≤ b.length) (hl : b.length ≤ 140737488355328) : num_Reader_Take.f b i 0 0 m = some ((b.drop i).take m, ((i + m : Nat) : Int), 0, 0) := by
  unfold num_Reader_Take.f
  rw [if_pos ⟨by omega, by omega, by omega⟩, if_neg (by omega), if_neg (by omega), if_neg (by omega), Int.toNat_natCast, Int.toNat_natCast]
  rfl
set_option maxRecDepth 100000 in
set_option maxHeartbeats 8000000 in
theorem front_yes (w0 w : World) (g : Nat) (x : List Bool) (y : Int) (rest : List Int) (hI : IsS73 w0 w g (1 :: (pack x ++ y :: rest)) 0 0 0) (hB : Below w0.heap.size w0 w) (hn : x.length ≤ 65536) (hc : 0 < cnt x x.length) (hy : 0 ≤ y ∧ y < 256) (hl : rest.length ≤ 1000000000) :
    Calls Tryz.prog 19 #[.pointer (some ⟨g, 0, none⟩), .int .i64 x.length] w fun e w' => ∃ gs bs, e = .returned (.tuple #[.pointer (some ⟨gs, 0, none⟩), .int .i64 y, .int .i64 0]) ∧ IsSet w' gs bs x ∧ IsS73 w0 w' g (1 :: (pack x ++ y :: rest)) ((1 + (x.length + 7) / 8 + 1 : Nat) : Int) 0 0 ∧ Below w0.heap.size w0 w' := by
  have hN := Aside0.mk (New_some x.length w hn)
  have hlt := hI.lt
  have hpl := pack_len x
  have f1 := fix_at 0 (1 :: (pack x ++ y :: rest)) 0 1 rfl ⟨by omega, by omega⟩ (by simp; omega)
  have f2 := take_at (1 :: (pack x ++ y :: rest)) 1 ((x.length + 7) / 8) (by simp; omega) (by simp; omega)
  have e2 : ((1 :: (pack x ++ y :: rest)).drop 1).take ((x.length + 7) / 8) = pack x := by rw [← hpl]; simp
  rw [e2] at f2
  have f3 := fix_at 0 (1 :: (pack x ++ y :: rest)) (1 + (x.length + 7) / 8) y (by rw [Nat.add_comm, List.getElem?_cons_succ, ← hpl]; simp) hy (by simp; omega)
  have F1 := Aside0.mk f1
  have F2 := Aside0.mk f2
  have F3 := Aside0.mk f3
  have I0 := Aside0.mk hI
  have B0 := Aside0.mk hB
  have HC := Aside0.mk hc
  have hc0 : ¬ ((cnt x x.length : Int) = 0) := by omega
  have hq : Int.tdiv ((x.length : Int) + 7) 8 = (((x.length + 7) / 8 : Nat) : Int) := by rw [Int.tdiv_eq_ediv_of_nonneg (by omega)]; omega
  have HQ := Aside0.mk hq
  clear f1 f2 f3 hI hB hl e2 hc hq
  generalize hbb : (1 :: (pack x ++ y :: rest)) = bb at *
  clear hbb
  go_enter Tryz.func19, Tryz.ntmps19
  go_wp2_with (first
    | (go_at_call 32; (with_reducible refine hN.out.mono ?_); rintro e w1 ⟨gs, bs, rfl, hS, hg, hb, hb1⟩; have I1 := Aside0.mk (I0.out.below hb1); have B1 := Aside0.mk (below_step B0.out hb1); clear hS hb1 I0 B0 hN)
    | (go_at_call 33; (with_reducible refine (num_Reader_Fix.calls 0 g bb 0 0 0 1 _ _ _ _ w0 _ I1.out B1.out F1.out).mono ?_); rintro e w2 ⟨rfl, hI2, hB2, hK2⟩; have I2 := Aside0.mk hI2; have B2 := Aside0.mk hB2; clear hI2 hB2 hK2 I1 B1)
    | (go_at_call 22; (with_reducible refine (num_Reader_Take.calls g bb 1 0 0 _ _ _ _ _ w0 _ I2.out B2.out F2.out).mono ?_); rintro e w3 ⟨v, rfl, hR, hI3, hB3, hK3⟩; obtain ⟨A, c, rfl⟩ := Kd.R_slice hR; have C3 := Aside0.mk (Kd.R_reads' hR).2.2; have I3 := Aside0.mk hI3; have B3 := Aside0.mk hB3; clear hR hI3 hB3 hK3 I2 B2)
    | (go_at_call 34; have hRd := Read_pack _ A c x C3.out hn; rw [hpl] at hRd; (with_reducible refine hRd.mono ?_); rintro e w4 ⟨gr, br, rfl, hS4, hg4, hb4, hB4⟩; have l3 := I3.out.lt; have ne1 : gr ≠ g := (by omega); have ne2 : br ≠ g := (by omega); have S4 := Aside0.mk hS4; have I4 := Aside0.mk (I3.out.below hB4); have B4 := Aside0.mk (below_step B3.out hB4); clear hRd hS4 hB4 C3 I3 B3 l3)
    | (go_at_call 35; (with_reducible refine (num_Reader_Err.calls g bb ((1 + (x.length + 7) / 8 : Nat) : Int) 0 0 _ _ _ _ _ w0 _ I4.out B4.out rfl).mono ?_); rintro e w5 ⟨rfl, hI5, hB5, hK5⟩; have S5 := Aside0.mk (IsSet.keepR S4.out hK5 ne1 ne2); have I5 := Aside0.mk hI5; have B5 := Aside0.mk hB5; clear hI5 hB5 hK5 I4 B4 S4)
    | (go_at_call 20; (with_reducible refine (Count_any _ _ _ _ S5.out).mono ?_); rintro e w6 ⟨rfl, hd⟩; have S6 := Aside0.mk (IsSet.below S5.out hd.below); have I6 := Aside0.mk (I5.out.below hd.below); have B6 := Aside0.mk (below_step B5.out hd.below); have HC6 := Aside0.mk HC.out; clear hd S5 I5 B5)
    | (go_at_call 33; (with_reducible refine (num_Reader_Fix.calls 0 g bb _ 0 0 1 _ _ _ _ w0 _ I6.out B6.out F3.out).mono ?_); rintro e w7 ⟨rfl, hI7, hB7, hK7⟩; have S7 := Aside0.mk (IsSet.keepR S6.out hK7 ne1 ne2); have I7 := Aside0.mk hI7; have B7 := Aside0.mk hB7; clear hI7 hB7 hK7 I6 B6 S6)
    | (go_at_call 35; (with_reducible refine (num_Reader_Err.calls g bb _ 0 0 _ _ _ _ _ w0 _ I7.out B7.out rfl).mono ?_); rintro e w8 ⟨rfl, hI8, hB8, hK8⟩; have S8 := Aside0.mk (IsSet.keepR S7.out hK8 ne1 ne2); have I8 := Aside0.mk hI8; have B8 := Aside0.mk hB8; clear hI8 hB8 hK8 I7 B7 S7))
  refine bodyPost_ret (results_tmp3 rfl _ _ _) rfl ?_
  exact ⟨gr, br, rfl, S8.out, I8.out, B8.out⟩
end Go.Proofs.YtehbkhddbdgbcaaGreatDoor.Ch
