/- chunk.parts: which values are nothing, the numbers, the texts. -/
import Derived.Test.YtehbkhddbdgbcaaGreatDoorPChunkBackx2
import Derived.Test.YtehbkhddbdgbcaaGreatDoorChSet
namespace Go.Proofs.YtehbkhddbdgbcaaGreatDoor.Ch
open Go.RowKit Go.Proofs.YtehbkhddbdgbcaaGreatDoorW.PrintWords Go.Proofs.YtehbkhddbdgbcaaGreatDoorW.PrintLast Go.Proofs.YtehbkhddbdgbcaaGreatDoorW.PrintMore Go.Proofs.YtehbkhddbdgbcaaGreatDoor.PChunkBack Go.Proofs.YtehbkhddbdgbcaaGreatDoor.Bits
attribute [local go_sem] max2_int min2_int max_two min_two max_three min_three max_four min_four
set_option linter.unusedVariables false
set_option linter.unusedSimpArgs false
theorem info2 : (Tryz.prog.info? 2).map (fun i => (i.zero, i.size, i.bytes)) = some (some (.int .i64 0), 1, 8) := by kernel_rfl
theorem info9 : (Tryz.prog.info? 9).map (fun i => (i.zero, i.size, i.bytes)) = some (some (.string ⟨#[]⟩), 1, 16) := by kernel_rfl
def marksOf (l : List S40) : List Bool := l.map (fun v => v.f0 == 0)
def intsOf (l : List S40) : List Int := (l.filter (fun v => v.f0 == 1)).map (·.f1)
def wordsOf (l : List S40) : List ByteArray := (l.filter (fun v => !(v.f0 == 0) && !(v.f0 == 1))).map (·.f2)
def marksAt (l : List S40) (i : Nat) : List Bool := marksOf (l.take i) ++ List.replicate (l.length - i) false
theorem marksAt_len (l : List S40) {i : Nat} (h : i ≤ l.length) : (marksAt l i).length = l.length := by simp [marksAt, marksOf]; omega
theorem take_succ' {α : Type} (l : List α) {i : Nat} (h : i < l.length) : l.take (i + 1) = l.take i ++ [l[i]] := by rw [List.take_add_one, List.getElem?_eq_getElem h]; rfl
theorem marksAt_yes {l : List S40} {i : Nat} (h : i < l.length) (h0 : l[i].f0 = 0) : Bits.mark (marksAt l i) i = marksAt l (i + 1) := by
  unfold Bits.mark
  rw [marksAt_len l (by omega), if_pos ⟨by omega, by omega⟩, Int.toNat_natCast]
  unfold marksAt marksOf
  have hln : ((l.take i).map (fun v => v.f0 == 0)).length = i := by rw [List.length_map, List.length_take]; omega
  rw [take_succ' l h, show l.length - i = (l.length - (i + 1)) + 1 by omega, List.replicate_succ, List.set_append_right _ _ (by rw [hln]; exact Nat.le_refl _), hln, Nat.sub_self, List.map_append, List.append_assoc]
  congr 1
  simp [h0]
theorem marksAt_no {l : List S40} {i : Nat} (h : i < l.length) (h0 : l[i].f0 ≠ 0) : marksAt l (i + 1) = marksAt l i := by
  unfold marksAt marksOf
  rw [take_succ' l h, show l.length - i = (l.length - (i + 1)) + 1 by omega, List.replicate_succ, List.map_append, List.append_assoc]
  congr 1
  simp [h0]
theorem ints_yes {l : List S40} {i : Nat} (h : i < l.length) (h0 : l[i].f0 = 1) : intsOf (l.take (i + 1)) = intsOf (l.take i) ++ [l[i].f1] := by
  unfold intsOf; rw [take_succ' l h, List.filter_append, List.map_append]; simp [h0]
theorem ints_no {l : List S40} {i : Nat} (h : i < l.length) (h0 : l[i].f0 ≠ 1) : intsOf (l.take (i + 1)) = intsOf (l.take i) := by
  unfold intsOf; rw [take_succ' l h, List.filter_append, List.map_append]; simp [h0]
theorem words_yes {l : List S40} {i : Nat} (h : i < l.length) (h0 : l[i].f0 ≠ 0) (h1 : l[i].f0 ≠ 1) : wordsOf (l.take (i + 1)) = wordsOf (l.take i) ++ [l[i].f2] := by
  unfold wordsOf; rw [take_succ' l h, List.filter_append, List.map_append]; simp [h0, h1]
theorem words_no {l : List S40} {i : Nat} (h : i < l.length) (h0 : l[i].f0 = 0 ∨ l[i].f0 = 1) : wordsOf (l.take (i + 1)) = wordsOf (l.take i) := by
  unfold wordsOf; rw [take_succ' l h, List.filter_append, List.map_append]; rcases h0 with h0 | h0 <;> simp [h0]
theorem ints_le (l : List S40) : (intsOf l).length ≤ l.length := by unfold intsOf; rw [List.length_map]; exact List.length_filter_le _ _
theorem words_le (l : List S40) : (wordsOf l).length ≤ l.length := by unfold wordsOf; rw [List.length_map]; exact List.length_filter_le _ _
theorem marksAt_all (l : List S40) : marksAt l l.length = marksOf l := by simp [marksAt]
section
variable {α β : Type} {d : Kd α} {d' : Kd β} {e e' : Nat} {W w2 : World} {base base' : Nat} {ok ok' : Nat → Prop} {v v' : Value} {xs : List α} {ys : List β} {g b : Nat} {x : List Bool}
theorem keepR (h : d.R e W base ok v xs) (hS : IsSet W g b x) (hk : ∀ k, k ≠ b → w2.heap[k]? = W.heap[k]?) (he : ∀ q, q ∈ e :: d.E → q ≠ 5) : d.R e w2 base ok v xs :=
  Kd.R_mono (Kd.R_step (Kd.R_types h hS.row he) (fun k hk2 _ => hk k hk2.2)) (fun k hk => hk.1)
theorem apartR (h : d.R e W base ok v xs) (h' : d'.R e' W base' ok' v' ys) (hne : ∀ q, q ∈ e :: d.E → q ≠ e') : d.R e W base (fun k => ok k ∧ some k ≠ v'.ownBlock) v xs := by
  cases hv : v'.ownBlock with
  | none => exact Kd.R_mono h (fun k hk => ⟨hk, by simp⟩)
  | some g =>
    obtain ⟨inner, ho⟩ := Kd.R_own h'
    obtain ⟨cells, hb⟩ := own_typed ho g hv
    exact Kd.R_mono (Kd.R_types h hb hne) (fun k hk => ⟨hk.1, fun e => by injection e with e; exact hk.2 e⟩)
theorem growR (h : d.R e W base ok v xs) (h' : d'.R e' W base' ok' v' ys) (hne : ∀ q, q ∈ e :: d.E → q ≠ e') (hg : W.grownBy w2 v'.ownBlock) : d.R e w2 base ok v xs :=
  Kd.R_mono (Kd.R_grown (apartR h h' hne) hg (fun k hk => hk.2)) (fun k hk => hk.1)
theorem growS (hS : IsSet W g b x) (h' : d'.R e' W base' ok' v' ys) (h1 : e' ≠ 90) (h2 : e' ≠ 5) (hg : W.grownBy w2 v'.ownBlock) : IsSet w2 g b x :=
  ⟨(hg.block g (blk_lt hS.head) (Kd.R_ne h' hS.head h1)).trans hS.head, (hg.block b (blk_lt hS.row) (Kd.R_ne h' hS.row h2)).trans hS.row, hS.le⟩
end
set_option maxRecDepth 100000 in
set_option maxHeartbeats 8000000 in
theorem parts_ok (w : World) (A : Option Addr) (c : Nat) (l : List S40) (hr : Kd.C k40 w A l.length l) (hl : l.length ≤ 65536) :
    Calls Tryz.prog 28 #[.slice A l.length c] w fun e w' => ∃ g b vi vw, e = .returned (.tuple #[.pointer (some ⟨g, 0, none⟩), vi, vw]) ∧ IsSet w' g b (marksOf l) ∧ (Kd.int .i64).R 2 w' w.heap.size (fun _ => True) vi (intsOf l) ∧ Kd.string.R 9 w' w.heap.size (fun _ => True) vw (wordsOf l) ∧ Below w.heap.size w w' := by
  have HR := Aside0.mk hr
  clear hr
  have hN := Aside0.mk (New_some l.length w hl)
  go_enter Tryz.func28, Tryz.ntmps28
  go_wp2_with (go_at_call 32; (with_reducible refine hN.out.mono ?_); rintro e w1 ⟨g, b, rfl, hS, hg, hb, hB⟩; have S1 := Aside0.mk hS; have B1 := Aside0.mk hB; clear hS hB)
  clear hN
  go_loopw [3, 4, 12] (fun vi vw iv wr => ∃ i : Nat, i ≤ l.length ∧ iv = .int .i64 i ∧ Aside0 (IsSet wr g b (marksAt l i)) ∧ Aside0 ((Kd.int .i64).R 2 wr w.heap.size (fun _ => True) vi (intsOf (l.take i))) ∧ Aside0 (Kd.string.R 9 wr w.heap.size (fun _ => True) vw (wordsOf (l.take i))) ∧ Aside0 (Below w.heap.size w wr)) (fun _ _ iv _ => l.length - (intOf iv).toNat)
  case atStart => exact ⟨0, Nat.zero_le _, rfl, ⟨by simpa [marksAt, marksOf] using S1.out⟩, ⟨Kd.R_nil _ _ _ _ _⟩, ⟨Kd.R_nil _ _ _ _ _⟩, B1⟩
  case round =>
    obtain ⟨i, hi, rfl, hS, hI, hW, hB⟩ := hrel
    by_cases hlt : i < l.length
    · obtain ⟨ad, rfl, q0, q1, q2⟩ := at_T40 (Kd.C_below HR.out hB.out) (i : Int) (by omega) (by omega)
      rw [Int.toNat_natCast, show rd_T40 l (i : Int) = l[i] by simp [rd_T40, hlt]] at q0 q1 q2
      have hli := Aside0.mk (ints_le (l.take i))
      have hlw := Aside0.mk (words_le (l.take i))
      have hal := below_alloc (Below.refl wr.heap.size wr) (.cells #[.int .i64 l[i].f0, .int .i64 l[i].f1, .string l[i].f2] 40)
      have SA := Aside0.mk (IsSet.below hS.out hal)
      have IA := Aside0.mk (Kd.R_below hI.out hal)
      have WA := Aside0.mk (Kd.R_below hW.out hal)
      have BA := Aside0.mk (below_step hB.out hal)
      have hsz := Aside0.mk (below_step hB.out hal).size
      have hil : (intsOf (l.take i)).length ≤ l.length := Nat.le_trans (ints_le _) (by rw [List.length_take]; omega)
      have hwl : (wordsOf (l.take i)).length ≤ l.length := Nat.le_trans (words_le _) (by rw [List.length_take]; omega)
      clear hS hI hW hB hal hli hlw
      by_cases k0 : l[i].f0 = 0
      · have E1 := Aside0.mk (marksAt_yes hlt k0)
        have E2 := Aside0.mk (ints_no hlt (show l[i].f0 ≠ 1 by omega))
        have E3 := Aside0.mk (words_no hlt (.inl k0))
        generalize l[i] = y at *
        obtain ⟨y0, y1, y2⟩ := y
        simp only at *
        subst k0
        go_wp2_with (go_at_call 55; (with_reducible refine (Mark_any _ _ _ _ (i : Int) SA.out).mono ?_); rintro e w2 ⟨rfl, hS2, hk2, hs2, hb2⟩; have S2 := Aside0.mk hS2; have K2 := Aside0.mk (And.intro hk2 hb2); clear hS2 hk2 hs2 hb2)
        rw [E1.out] at S2
        exact ⟨⟨i + 1, by omega, rfl, S2, ⟨by rw [E2.out]; exact keepR IA.out SA.out K2.out.1 (by simp [Kd.int, Kd.scalar])⟩, ⟨by rw [E3.out]; exact keepR WA.out SA.out K2.out.1 (by simp [Kd.string, Kd.scalar])⟩, ⟨K2.out.2 _ _ hb BA.out⟩⟩, by simp [intOf]; omega⟩
      · by_cases k1 : l[i].f0 = 1
        · have E1 := Aside0.mk (marksAt_no hlt k0)
          have E2 := Aside0.mk (ints_yes hlt k1)
          have E3 := Aside0.mk (words_no hlt (.inr k1))
          generalize l[i] = y at *
          obtain ⟨y0, y1, y2⟩ := y
          simp only at *
          subst k1
          go_wp2_with (at_builtin; refine Kd.R_append (Kd.int .i64) (w0 := w) w.heap.size rfl (.tmp 31) (.tmp 34) 51 2 (.int .i64 0) 8 rfl Tryz.underlying51 info2 rfl (by decide) (by decide) _ (intsOf (l.take i)) y1 [.int .i64 y1] (fun _ => True) (fun _ => False) rfl (by rw [World.size_alloc]; rfl) rfl (fun _ h => h.elim) (fun _ _ => trivial) IA.out BA.out hsz.out (by omega) ?_; intro v1 w3 hR3 hB3 hg3 _)
          exact ⟨⟨i + 1, by omega, rfl, ⟨by rw [E1.out]; exact growS SA.out IA.out (by decide) (by decide) hg3⟩, ⟨by rw [E2.out]; exact hR3⟩, ⟨by rw [E3.out]; exact growR WA.out IA.out (by simp [Kd.string, Kd.scalar]) hg3⟩, ⟨hB3⟩⟩, by simp [intOf]; omega⟩
        · have E1 := Aside0.mk (marksAt_no hlt k0)
          have E2 := Aside0.mk (ints_no hlt k1)
          have E3 := Aside0.mk (words_yes hlt k0 k1)
          generalize l[i] = y at *
          obtain ⟨y0, y1, y2⟩ := y
          simp only at *
          go_wp2_with (at_builtin; refine Kd.R_append Kd.string (w0 := w) w.heap.size rfl (.tmp 19) (.tmp 22) 52 9 (.string ⟨#[]⟩) 16 rfl Tryz.underlying52 info9 rfl (by decide) (by decide) _ (wordsOf (l.take i)) y2 [.string y2] (fun _ => True) (fun _ => False) rfl (by rw [World.size_alloc]; rfl) rfl (fun _ h => h.elim) (fun _ _ => trivial) WA.out BA.out hsz.out (by omega) ?_; intro v1 w3 hR3 hB3 hg3 _)
          exact ⟨⟨i + 1, by omega, rfl, ⟨by rw [E1.out]; exact growS SA.out WA.out (by decide) (by decide) hg3⟩, ⟨by rw [E2.out]; exact growR IA.out WA.out (by simp [Kd.int, Kd.scalar]) hg3⟩, ⟨by rw [E3.out]; exact hR3⟩, ⟨hB3⟩⟩, by simp [intOf]; omega⟩
    · have hie : i = l.length := by omega
      subst hie
      have hm := marksAt_all l
      have ht : l.take l.length = l := List.take_length
      rw [hm] at hS
      rw [ht] at hI hW
      go_wp2
      refine bodyPost_ret (results_tmp3 rfl _ _ _) rfl ?_
      exact ⟨_, _, _, _, rfl, hS.out, hI.out, hW.out, hB.out⟩
end Go.Proofs.YtehbkhddbdgbcaaGreatDoor.Ch
namespace Go.Proofs.YtehbkhddbdgbcaaGreatDoor.Ch
open Go.RowKit Go.Proofs.YtehbkhddbdgbcaaGreatDoorW.PrintWords Go.Proofs.YtehbkhddbdgbcaaGreatDoorW.PrintLast Go.Proofs.YtehbkhddbdgbcaaGreatDoorW.PrintMore Go.Proofs.YtehbkhddbdgbcaaGreatDoor.PChunkBack Go.Proofs.YtehbkhddbdgbcaaGreatDoor.Bits
set_option linter.unusedVariables false
set_option linter.unusedSimpArgs false
def valI (x : List Bool) (is : List Int) (i : Nat) : S40 := if x.getD i false then z40 else ⟨1, is.getD (i - cnt x i) 0, ⟨#[]⟩⟩
def valW (x : List Bool) (ws : List ByteArray) (i : Nat) : S40 := if x.getD i false then z40 else ⟨2, 0, ws.getD (i - cnt x i) ⟨#[]⟩⟩
def outI (x : List Bool) (is : List Int) (n : Nat) : List S40 := (List.range n).map (valI x is)
def outW (x : List Bool) (ws : List ByteArray) (n : Nat) : List S40 := (List.range n).map (valW x ws)
theorem outI_succ (x : List Bool) (is : List Int) (n : Nat) : outI x is (n + 1) = outI x is n ++ [valI x is n] := by unfold outI; rw [List.range_succ, List.map_append]; rfl
theorem outW_succ (x : List Bool) (ws : List ByteArray) (n : Nat) : outW x ws (n + 1) = outW x ws n ++ [valW x ws n] := by unfold outW; rw [List.range_succ, List.map_append]; rfl
theorem marks_at {l : List S40} {i : Nat} (h : i < l.length) : (marksOf l).getD i false = (l[i].f0 == 0) := by
  unfold marksOf
  rw [List.getD_eq_getElem?_getD, List.getElem?_map, List.getElem?_eq_getElem h]
  rfl
theorem ints_count (l : List S40) (hk : ∀ v ∈ l, v.f0 = 0 ∨ v.f0 = 1) : ∀ i, i ≤ l.length → (intsOf (l.take i)).length + cnt (marksOf l) i = i := by
  intro i
  induction i with
  | zero => intro _; rfl
  | succ i ih =>
    intro hi
    have h := ih (by omega)
    have hc := cnt_succ (marksOf l) i
    rw [marks_at (by omega)] at hc
    have hi' : i < l.length := by omega
    rcases hk l[i] (List.getElem_mem _) with h0 | h0
    · rw [ints_no hi' (by omega)]
      rw [h0] at hc
      have : (((0 : Int) == 0) : Bool).toInt = 1 := by decide
      omega
    · rw [ints_yes hi' h0, List.length_append, List.length_singleton]
      rw [h0] at hc
      have : (((1 : Int) == 0) : Bool).toInt = 0 := by decide
      omega
theorem words_count (l : List S40) (hk : ∀ v ∈ l, v.f0 = 0 ∨ v.f0 = 2) : ∀ i, i ≤ l.length → (wordsOf (l.take i)).length + cnt (marksOf l) i = i := by
  intro i
  induction i with
  | zero => intro _; rfl
  | succ i ih =>
    intro hi
    have h := ih (by omega)
    have hc := cnt_succ (marksOf l) i
    rw [marks_at (by omega)] at hc
    have hi' : i < l.length := by omega
    rcases hk l[i] (List.getElem_mem _) with h0 | h0
    · rw [words_no hi' (.inl h0)]
      rw [h0] at hc
      have : (((0 : Int) == 0) : Bool).toInt = 1 := by decide
      omega
    · rw [words_yes hi' (by omega) (by omega), List.length_append, List.length_singleton]
      rw [h0] at hc
      have : (((2 : Int) == 0) : Bool).toInt = 0 := by decide
      omega
theorem outI_self (l : List S40) (hk : ∀ v ∈ l, v.f0 = 0 ∨ v.f0 = 1) (h0 : ∀ v ∈ l, v.f0 = 0 → v = z40) (h1 : ∀ v ∈ l, v.f0 = 1 → v.f2 = ⟨#[]⟩) : outI (marksOf l) (intsOf l) l.length = l := by
  apply List.ext_getElem
  · simp [outI]
  · intro i hi hi2
    have e : (outI (marksOf l) (intsOf l) l.length)[i] = valI (marksOf l) (intsOf l) i := by simp [outI]
    rw [e]
    unfold valI
    rw [marks_at hi2]
    have hm := List.getElem_mem hi2
    rcases hk _ hm with k | k
    · rw [k, if_pos (by decide)]; exact (h0 _ hm k).symm
    · rw [k, if_neg (by decide)]
      have hc := ints_count l hk i (by omega)
      have hs : intsOf l = intsOf (l.take i) ++ l[i].f1 :: intsOf (l.drop (i + 1)) := by
        conv => lhs; rw [← List.take_append_drop i l, List.drop_eq_getElem_cons hi2]
        unfold intsOf
        rw [List.filter_append, List.map_append, List.filter_cons_of_pos (by simp [k])]
        rfl
      have hg : (intsOf l).getD (i - cnt (marksOf l) i) 0 = l[i].f1 := by
        rw [show i - cnt (marksOf l) i = (intsOf (l.take i)).length by omega, hs, List.getD_eq_getElem?_getD, List.getElem?_append_right (Nat.le_refl _), Nat.sub_self]
        rfl
      rw [hg]
      have h2 := h1 _ hm k
      generalize l[i] = y at *
      obtain ⟨y0, y1, y2⟩ := y
      simp only at k h2
      subst k; subst h2; rfl
theorem outW_self (l : List S40) (hk : ∀ v ∈ l, v.f0 = 0 ∨ v.f0 = 2) (h0 : ∀ v ∈ l, v.f0 = 0 → v = z40) (h1 : ∀ v ∈ l, v.f0 = 2 → v.f1 = 0) : outW (marksOf l) (wordsOf l) l.length = l := by
  apply List.ext_getElem
  · simp [outW]
  · intro i hi hi2
    have e : (outW (marksOf l) (wordsOf l) l.length)[i] = valW (marksOf l) (wordsOf l) i := by simp [outW]
    rw [e]
    unfold valW
    rw [marks_at hi2]
    have hm := List.getElem_mem hi2
    rcases hk _ hm with k | k
    · rw [k, if_pos (by decide)]; exact (h0 _ hm k).symm
    · rw [k, if_neg (by decide)]
      have hc := words_count l hk i (by omega)
      have hs : wordsOf l = wordsOf (l.take i) ++ l[i].f2 :: wordsOf (l.drop (i + 1)) := by
        conv => lhs; rw [← List.take_append_drop i l, List.drop_eq_getElem_cons hi2]
        unfold wordsOf
        rw [List.filter_append, List.map_append, List.filter_cons_of_pos (by simp [k])]
        rfl
      have hg : (wordsOf l).getD (i - cnt (marksOf l) i) ⟨#[]⟩ = l[i].f2 := by
        rw [show i - cnt (marksOf l) i = (wordsOf (l.take i)).length by omega, hs, List.getD_eq_getElem?_getD, List.getElem?_append_right (Nat.le_refl _), Nat.sub_self]
        rfl
      rw [hg]
      have h2 := h1 _ hm k
      generalize l[i] = y at *
      obtain ⟨y0, y1, y2⟩ := y
      simp only at k h2
      subst k; subst h2; rfl
end Go.Proofs.YtehbkhddbdgbcaaGreatDoor.Ch
