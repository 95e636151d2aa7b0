/- Which strings are names; finding a file; an empty disk. -/
import Derived.Test.YtcblcffkppiclaaDkHead
namespace Go.Proofs.Ytcblcffkppiclaa.Dk
open Go.RowKit Go.Maps Go.Proofs.Ytcblcffkppiclaa.DkMap Go.Proofs.YtcblcffkppiclaaW.PrintWords Go.Proofs.YtcblcffkppiclaaW.PrintLast Go.Proofs.YtcblcffkppiclaaW.PrintMore
attribute [local go_sem] max2_int min2_int max_two min_two max_three min_three max_four min_four
set_option linter.unusedVariables false
set_option linter.unusedSimpArgs false
def okc (c : UInt8) : Bool := (decide (97 ≤ c.toNat) && decide (c.toNat ≤ 122)) || (decide (48 ≤ c.toNat) && decide (c.toNat ≤ 57)) || c.toNat == 45 || c.toNat == 46
theorem isName_eq (l : List UInt8) : isName l = (l.all okc && decide (1 ≤ l.length) && decide (l.length ≤ 32)) := rfl
theorem isName_bad {l : List UInt8} {j : Nat} (hj : j < l.length) (h : okc (l.getD j 0) = false) : isName l = false := by
  rw [isName_eq]
  have : l.all okc = false := by
    rw [List.all_eq_false]
    refine ⟨l.getD j 0, ?_, by rw [h]; simp⟩
    rw [List.getD_eq_getElem?_getD, List.getElem?_eq_getElem hj]
    exact List.getElem_mem hj
  rw [this]; rfl
theorem all_step {l : List UInt8} {j : Nat} (hj : j < l.length) (h0 : (l.take j).all okc = true) (h : okc (l.getD j 0) = true) : (l.take (j + 1)).all okc = true := by
  rw [List.take_add_one, List.all_append, h0, List.getElem?_eq_getElem hj]
  rw [List.getD_eq_getElem?_getD, List.getElem?_eq_getElem hj] at h
  simpa using h
theorem below_bytes (w : World) (e : TypeId) (s : ByteArray) : Below w.heap.size w (Go.Lib.bytesWorld w e s) :=
  ⟨rfl, rfl, rfl, by rw [Go.Lib.bytesWorld_size]; omega, fun j hj => Go.Lib.bytesWorld_at_old w e s j hj⟩
set_option maxHeartbeats 4000000 in
theorem isName_ok (w : World) (s : ByteArray) (hs : s.size ≤ 9223372036854775807) : Calls Try.prog 35 #[.string s] w fun e w' => e = .returned (.bool (isName s.data.toList)) ∧ Below w.heap.size w w' := by
  have hl : s.data.toList.length = s.size := Array.length_toList
  have hrun := Go.Lib.run_convert_string_bytes (P := Try.prog) w 9 26 5 s (u := .string) (by kernel_rfl) (by kernel_rfl) (by kernel_rfl)
  have hbel := below_bytes w 5 s
  have hcell := fun j => Go.Lib.bytesWorld_cell w 5 s j
  have hb := Go.Lib.bytesWorld_at_new w 5 s
  generalize Go.Lib.bytesWorld w 5 s = wb at hrun hbel hcell hb
  go_enter Try.func35, Try.ntmps35
  go_wp2
  clear hrun
  go_loopw [4, 5, 6, 10] (fun _ _ _ k wr => ∃ j : Nat, j ≤ s.size ∧ k = .int .i64 j ∧ Aside0 ((s.data.toList.take j).all okc = true) ∧ wr = wb) (fun _ _ _ k _ => s.size - (intOf k).toNat)
  case atStart => exact ⟨0, Nat.zero_le _, rfl, ⟨by simp⟩, rfl⟩
  case round =>
    obtain ⟨j, hj, rfl, hA, rfl⟩ := hrel
    by_cases hlt : j < s.size
    · have hc := hcell j hlt
      have hb2 := isName_bad (l := s.data.toList) (j := j) (by omega)
      have hs2 := all_step (l := s.data.toList) (j := j) (by omega) hA.out
      generalize s.data.toList.getD j 0 = c at hc hb2 hs2
      have hx : c.toNat < 256 := c.toNat_lt
      have hoc : okc c = ((decide (97 ≤ c.toNat) && decide (c.toNat ≤ 122)) || (decide (48 ≤ c.toNat) && decide (c.toNat ≤ 57)) || c.toNat == 45 || c.toNat == 46) := rfl
      generalize c.toNat = x at hc hx hoc
      clear hA hcell
      have hcs : x < 45 ∨ x = 45 ∨ x = 46 ∨ (47 ≤ x ∧ x ≤ 47) ∨ (48 ≤ x ∧ x ≤ 57) ∨ (58 ≤ x ∧ x ≤ 96) ∨ (97 ≤ x ∧ x ≤ 122) ∨ 123 ≤ x := by omega
      rcases hcs with q1 | rfl | rfl | ⟨q1, q2⟩ | ⟨q1, q2⟩ | ⟨q1, q2⟩ | ⟨q1, q2⟩ | q1
      · have n1 : ((x : Int) != 45) = true := by rw [bne_iff_ne]; omega
        have n2 : ((x : Int) != 46) = true := by rw [bne_iff_ne]; omega
        have HB := Aside0.mk (hb2 (by rw [hoc]; simp <;> omega))
        clear hs2 hb2 hoc
        go_wp2
        go_ret
        exact ⟨by rw [HB.out]; rfl, hbel⟩
      · have HA := Aside0.mk (hs2 (by rw [hoc]; simp <;> omega))
        clear hs2 hb2 hoc
        go_wp2
        exact ⟨⟨j + 1, by omega, rfl, HA, trivial⟩, by simp [intOf]; omega⟩
      · have HA := Aside0.mk (hs2 (by rw [hoc]; simp <;> omega))
        clear hs2 hb2 hoc
        go_wp2
        exact ⟨⟨j + 1, by omega, rfl, HA, trivial⟩, by simp [intOf]; omega⟩
      · have n1 : ((x : Int) != 45) = true := by rw [bne_iff_ne]; omega
        have n2 : ((x : Int) != 46) = true := by rw [bne_iff_ne]; omega
        have HB := Aside0.mk (hb2 (by rw [hoc]; simp <;> omega))
        clear hs2 hb2 hoc
        go_wp2
        go_ret
        exact ⟨by rw [HB.out]; rfl, hbel⟩
      · have HA := Aside0.mk (hs2 (by rw [hoc]; simp <;> omega))
        clear hs2 hb2 hoc
        go_wp2
        exact ⟨⟨j + 1, by omega, rfl, HA, trivial⟩, by simp [intOf]; omega⟩
      · have n1 : ((x : Int) != 45) = true := by rw [bne_iff_ne]; omega
        have n2 : ((x : Int) != 46) = true := by rw [bne_iff_ne]; omega
        have n3 : (!decide ((x : Int) ≤ 57)) = true := by rw [decide_eq_false (by omega)]; rfl
        have HB := Aside0.mk (hb2 (by rw [hoc]; simp <;> omega))
        clear hs2 hb2 hoc
        go_wp2
        go_ret
        exact ⟨by rw [HB.out]; rfl, hbel⟩
      · have HA := Aside0.mk (hs2 (by rw [hoc]; simp <;> omega))
        clear hs2 hb2 hoc
        go_wp2
        exact ⟨⟨j + 1, by omega, rfl, HA, trivial⟩, by simp [intOf]; omega⟩
      · have n1 : ((x : Int) != 45) = true := by rw [bne_iff_ne]; omega
        have n2 : ((x : Int) != 46) = true := by rw [bne_iff_ne]; omega
        have n3 : (!decide ((x : Int) ≤ 122)) = true := by rw [decide_eq_false (by omega)]; rfl
        have n4 : (!decide ((x : Int) ≤ 57)) = true := by rw [decide_eq_false (by omega)]; rfl
        have HB := Aside0.mk (hb2 (by rw [hoc]; simp <;> omega))
        clear hs2 hb2 hoc
        go_wp2
        go_ret
        exact ⟨by rw [HB.out]; rfl, hbel⟩
    · have hje : j = s.size := by omega
      have HA := hA.out
      rw [hje, List.take_of_length_le (by omega)] at HA
      have hn := isName_eq s.data.toList
      rw [HA, hl] at hn
      have HN := Aside0.mk hn
      clear hn HA hcell hb hA hl
      by_cases c1 : 1 ≤ s.size
      · by_cases c2 : s.size ≤ 32
        · go_wp2
          go_ret
          exact ⟨by rw [HN.out, decide_eq_true c1, decide_eq_true c2]; show Ending.returned (.bool (decide ((s.size : Int) ≤ 32))) = _; rw [decide_eq_true (by omega : (s.size : Int) ≤ 32)]; rfl, hbel⟩
        · go_wp2
          go_ret
          exact ⟨by rw [HN.out, decide_eq_true c1, decide_eq_false c2]; show Ending.returned (.bool (decide ((s.size : Int) ≤ 32))) = _; rw [decide_eq_false (by omega : ¬ (s.size : Int) ≤ 32)]; rfl, hbel⟩
      · go_wp2
        go_ret
        exact ⟨by rw [HN.out, decide_eq_false c1]; rfl, hbel⟩
end Go.Proofs.Ytcblcffkppiclaa.Dk
