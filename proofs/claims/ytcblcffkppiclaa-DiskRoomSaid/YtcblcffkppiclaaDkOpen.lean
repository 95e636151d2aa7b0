/- What came in, opened: rows of acts, rows of bytes, rows of numbers. -/
import Derived.Test.YtcblcffkppiclaaDkSlf
import Derived.Test.YtcblcffkppiclaaDkRoom
import Derived.OpenShut
namespace Go.Proofs.Ytcblcffkppiclaa.Dk
open Go.RowKit Go.Maps Go.Proofs.Ytcblcffkppiclaa.DkMap Go.ChangeShapes Go.WideShapes Go.Deep
set_option linter.unusedVariables false
set_option linter.unusedSimpArgs false
theorem pick_list {α : Type} {n : Nat} {P : Nat → α → Prop} (h : ∀ i, i < n → ∃ x, P i x) : ∃ l : List α, l.length = n ∧ ∀ i (hi : i < l.length), P i l[i] := by
  induction n with
  | zero => exact ⟨[], rfl, fun i hi => absurd hi (by simp)⟩
  | succ n ih =>
    obtain ⟨l, hl, hP⟩ := ih (fun i hi => h i (by omega))
    obtain ⟨x, hx⟩ := h n (by omega)
    refine ⟨l ++ [x], by simp [hl], fun i hi => ?_⟩
    by_cases e : i < l.length
    · rw [List.getElem_append_left e]; exact hP i e
    · have e2 : i = n := by simp at hi; omega
      subst e2
      rw [List.getElem_append_right (by omega)]
      simpa [hl] using hx
theorem cell_lt {W : World} {p : Addr} {v : Value} (h : W.cell? p = some v) : p.block < W.heap.size := by
  apply Classical.byContradiction
  intro hn
  have : W.heap[p.block]? = none := by simp; omega
  simp [World.cell?, this] at h
section
variable {H : Type} {enc : TypeId × Value → H} {W : World}
theorem open_bytes {fuel : Nat} {v : Value} {x : DataW H × List MemPlace} (h : DataW.trod enc Try.prog W 0 (fun _ => true) true fuel 26 [v] = some x) : ∃ A c b, v = .slice A (List.length b) c ∧ Arg W noTag A c b ∧ b.length ≤ maxLen ∧ ∀ n ∈ b, 0 ≤ n ∧ n ≤ 255 := by
  rcases open_ints Try.underlying26 Try.underlying5 (by kernel_rfl) h with ⟨hcs, _⟩ | ⟨a, len, cap, zs, hcs, _, hl, hm, hz, _, hcell, hwz⟩
  · simp at hcs
    subst hcs
    exact ⟨none, 0, [], rfl, ⟨fun _ => ⟨rfl, rfl⟩, fun _ e => (by cases e), fun _ e => (by cases e)⟩, Nat.zero_le _, fun _ h => (by cases h)⟩
  · simp at hcs
    subst hcs
    have hz' : zs.length = cap := by simpa using hz
    have hlen : (zs.take len).length = len := by rw [List.length_take]; omega
    have hc : ∀ j u, (zs.take len)[j]? = some u → W.cell? (a.add j) = some (.int .u8 u) := by
      intro j u hj
      rw [List.getElem?_take] at hj
      split at hj
      · rw [hcell j (by omega), List.getD_eq_getElem?_getD, hj]; rfl
      · cases hj
    refine ⟨some a, cap, zs.take len, by rw [hlen], ⟨fun e => (by cases e), fun ad e => ?_, fun ad e hp => ?_⟩, by omega, fun n hn => bounds_u8 (hwz n (List.mem_of_mem_take hn))⟩
    · injection e with e; subst e; exact hc
    · injection e with e
      subst e
      have := cell_lt (hc 0 ((zs.take len)[0]'hp) (List.getElem?_eq_getElem hp))
      exact ⟨by simpa [Addr.add] using this, rfl⟩
theorem open_nums {fuel : Nat} {v : Value} {x : DataW H × List MemPlace} (h : DataW.trod enc Try.prog W 0 (fun _ => true) true fuel 32 [v] = some x) : ∃ A c b, v = .slice A (List.length b) c ∧ Kp W noTag A c b ∧ b.length ≤ maxLen := by
  rcases open_ints Try.underlying32 Try.underlying3 (by kernel_rfl) h with ⟨hcs, _⟩ | ⟨a, len, cap, zs, hcs, _, hl, hm, hz, _, hcell, hwz⟩
  · simp at hcs
    subst hcs
    exact ⟨none, 0, [], rfl, ⟨Nat.le_refl _, fun h => absurd h (by simp)⟩, Nat.zero_le _⟩
  · simp at hcs
    subst hcs
    have hz' : zs.length = cap := by simpa using hz
    have hlen : (zs.take len).length = len := by rw [List.length_take]; omega
    refine ⟨some a, cap, zs.take len, by rw [hlen], ⟨by omega, fun hp => ⟨a, rfl, ?_, rfl, fun j hj => ?_⟩⟩, by omega⟩
    · have := cell_lt (hcell 0 (by omega))
      simpa [Addr.add] using this
    · rw [hcell j (by omega)]
      congr 2
      rw [List.getD_eq_getElem?_getD, List.getD_eq_getElem?_getD, List.getElem?_take, if_pos (by omega)]
theorem open_acts {a : Option Addr} {len cap : Nat} {d : DataW H} {p : List MemPlace} (h : DataW.Trod enc Try.prog W 0 (fun _ => true) true 37 (.slice a len cap) d p) : ∃ l : List DAct, l.length = len ∧ Acts W noTag a l ∧ l.length ≤ maxLen := by
  obtain ⟨fuel, hf⟩ := h
  rcases Slf.open_slice_fields Try.underlying37 Try.underlying42 (by kernel_rfl) (by kernel_rfl) hf with ⟨hcs, _⟩ | ⟨ad, len', cap', m, D, Pl, hcs, _, hl, hm, hmm, _, hi⟩
  · simp [Value.cells] at hcs
    obtain ⟨rfl, rfl, rfl⟩ := hcs
    exact ⟨[], rfl, fun i hi => absurd hi (by simp), Nat.zero_le _⟩
  · simp [Value.cells] at hcs
    obtain ⟨rfl, rfl, rfl⟩ := hcs
    have hex : ∀ i, i < len → ∃ x : DAct, ad.block < W.heap.size ∧ ActV W noTag (fun j => W.cell? (ad.add (i * 6 + j))) x := by
      intro i hi2
      have him : i < m := by rw [hmm]; split <;> omega
      obtain ⟨ys, n, _, _, _, hf2⟩ := hi i him
      obtain ⟨u0, y0, hc0, _, ht0⟩ := hf2 0 _ rfl
      obtain ⟨u1, y1, hc1, _, ht1⟩ := hf2 1 _ rfl
      obtain ⟨u2, y2, hc2, _, ht2⟩ := hf2 2 _ rfl
      obtain ⟨u3, y3, hc3, _, ht3⟩ := hf2 3 _ rfl
      obtain ⟨u4, y4, hc4, _, ht4⟩ := hf2 4 _ rfl
      obtain ⟨u5, y5, hc5, _, ht5⟩ := hf2 5 _ rfl
      obtain ⟨x0, e0, _, wx0⟩ := DataW.trod_int Try.underlying3 ht0
      obtain ⟨x4, e4, _, wx4⟩ := DataW.trod_int Try.underlying3 ht4
      obtain ⟨s1, e1, _, ws1⟩ := DataW.trod_string Try.underlying9 ht1
      obtain ⟨s2, e2, _, ws2⟩ := DataW.trod_string Try.underlying9 ht2
      obtain ⟨A, c, b, rfl, hA, hbl, _⟩ := open_bytes ht3
      obtain ⟨K, kc, ks, rfl, hK, hkl⟩ := open_nums ht5
      simp at e0 e4 e1 e2
      subst e0 e4 e1 e2
      have hc0' : W.cell? (ad.add (i * 6 + 0)) = some (.int .i64 x0) := hc0
      refine ⟨⟨x0, s1.data.toList, s2.data.toList, b, x4, ks⟩, ?_, ⟨s1, s2, A, c, K, kc, hc0, hc1, hc2, hc3, hc4, hc5, rfl, rfl, ws1, ws2, hA, hK, hbl, hkl, (bounds_i64 wx4).2⟩⟩
      have := cell_lt hc0'
      rwa [add_block] at this
    obtain ⟨l, hl2, hP⟩ := pick_list hex
    exact ⟨l, hl2, fun i hi => ⟨ad, rfl, (hP i hi).1, rfl, (hP i hi).2⟩, by omega⟩
theorem DiskRoom_row (r : Int) (A : Option Addr) (l : List DAct) (c : Nat) (w : World) (hr : (Lit.int .u8 r).wf = true) (hA : Acts w noTag A l ∧ l.length ≤ maxLen) :
    Calls Try.prog 4 #[.int .u8 r, .slice A l.length c] w fun e w' => e = .returned (.bool true) ∧ Below w.heap.size w w' := DiskRoom_ok r A l c w (bounds_u8 hr).1 (bounds_u8 hr).2 hA.1 hA.2
end
end Go.Proofs.Ytcblcffkppiclaa.Dk
