/- Whether there is more than is looked at. -/
import Derived.Test.YtcblcffkppiclaaDkActs
namespace Go.Proofs.Ytcblcffkppiclaa.Dk
open Go.RowKit Go.Maps Go.Sort Go.Proofs.Ytcblcffkppiclaa.DkMap Go.Proofs.YtcblcffkppiclaaW.PrintWords Go.Proofs.YtcblcffkppiclaaW.PrintLast Go.Proofs.YtcblcffkppiclaaW.PrintMore Go.Proofs.Ytcblcffkppiclaa.PDiskNil
attribute [local go_sem] max2_int min2_int max_two min_two max_three min_three max_four min_four
set_option linter.unusedVariables false
set_option linter.unusedSimpArgs false
set_option linter.unusedSectionVars false
structure Small (a : DAct) : Prop where
  b : a.b.length ≤ 100
  ks : a.ks.length ≤ 100
  nm : a.nm.length ≤ 100
  ton : a.ton.length ≤ 100
theorem add_field (ad : Addr) (k n : Nat) : (⟨(ad.add k).block, (ad.add k).off + (n + 1), none⟩ : Addr) = ad.add (k + (n + 1)) := by
  unfold Addr.add
  by_cases h : k = 0 <;> simp [h, Nat.add_assoc]
def GreatPost (l : List DAct) (e : Ending) : Prop := ∃ g, e = .returned (.bool g) ∧ (g = false → l.length ≤ 60 ∧ ∀ i (h : i < l.length), Small l[i])
set_option maxHeartbeats 4000000 in
theorem great_ok (w : World) (tag : Tags) (A : Option Addr) (l : List DAct) (c : Nat) (hA : Acts w tag A l) (hl : l.length ≤ maxLen) :
    Calls Try.prog 16 #[.slice A l.length c] w fun e w' => GreatPost l e ∧ w' = w := by
  unfold maxLen at hl
  have HA := Aside0.mk hA
  clear hA
  go_enter Try.func16, Try.ntmps16
  go_wp2
  go_loopw [3] (fun k wr => ∃ j : Nat, j ≤ l.length ∧ j ≤ 60 ∧ k = .int .i64 j ∧ Aside0 (∀ i (h : i < l.length), i < j → Small l[i]) ∧ wr = w) (fun k _ => 60 - (intOf k).toNat)
  case atStart => exact ⟨0, Nat.zero_le _, Nat.zero_le _, rfl, ⟨fun i _ h => absurd h (by omega)⟩, rfl⟩
  case round =>
    obtain ⟨j, hj, hj6, rfl, hS, rfl⟩ := hrel
    by_cases hlt : j < l.length
    · by_cases h60 : j < 60
      · obtain ⟨ad, rfl, hb, ht, ⟨s, t, B, cb, K, kc, c0, c1, c2, c3, c4, c5, es, et, hs, ht', hA, hK, hbl, hkl, hn⟩⟩ := HA.out j hlt
        have q3 : wr.cell? ⟨(ad.add (j * 6)).block, (ad.add (j * 6)).off + 3, none⟩ = some (.slice B l[j].b.length cb) := by rw [add_field ad (j * 6) 2]; exact c3
        have q5 : wr.cell? ⟨(ad.add (j * 6)).block, (ad.add (j * 6)).off + 5, none⟩ = some (.slice K l[j].ks.length kc) := by rw [add_field ad (j * 6) 4]; exact c5
        have q1 : wr.cell? ⟨(ad.add (j * 6)).block, (ad.add (j * 6)).off + 1, none⟩ = some (.string s) := by rw [add_field ad (j * 6) 0]; exact c1
        have q2 : wr.cell? ⟨(ad.add (j * 6)).block, (ad.add (j * 6)).off + 2, none⟩ = some (.string t) := by rw [add_field ad (j * 6) 1]; exact c2
        have l1 : l[j].nm.length = s.size := by rw [← es]; exact Array.length_toList
        have l2 : l[j].ton.length = t.size := by rw [← et]; exact Array.length_toList
        clear c0 c1 c2 c3 c4 c5 hA hK es et
        have hjx : Small l[j] ∨ ¬ Small l[j] := Classical.em _
        have hst : l[j].b.length ≤ 100 → l[j].ks.length ≤ 100 → s.size ≤ 100 → t.size ≤ 100 → ∀ i (h : i < l.length), i < j + 1 → Small l[i] := by
          intro a1 a2 a3 a4 i hi hij
          by_cases e : i = j
          · subst e; exact ⟨a1, a2, by rw [l1]; exact a3, by rw [l2]; exact a4⟩
          · exact hS.out i hi (by omega)
        have HS2 := Aside0.mk hst
        clear hst hjx l1 l2 hS
        generalize l[j].b.length = n1 at q3 hbl HS2
        generalize l[j].ks.length = n2 at q5 hkl HS2
        unfold maxLen at hs ht' hbl hkl
        by_cases p1 : n1 ≤ 100
        · by_cases p2 : n2 ≤ 100
          · by_cases p3 : s.size ≤ 100
            · by_cases p4 : t.size ≤ 100
              · have hin := Aside0.mk (HS2.out p1 p2 p3 p4)
                clear HS2
                go_wp2
                exact ⟨⟨j + 1, by omega, by omega, rfl, hin, trivial⟩, by simp [intOf]; omega⟩
              · clear HS2
                go_wp2
                go_ret
                exact ⟨⟨true, rfl, fun h => by cases h⟩, rfl⟩
            · clear HS2
              go_wp2
              go_ret
              exact ⟨⟨true, rfl, fun h => by cases h⟩, rfl⟩
          · clear HS2
            go_wp2
            go_ret
            exact ⟨⟨true, rfl, fun h => by cases h⟩, rfl⟩
        · clear HS2
          go_wp2
          go_ret
          exact ⟨⟨true, rfl, fun h => by cases h⟩, rfl⟩
      · have h6 : j = 60 := by omega
        subst h6
        by_cases h61 : 60 < l.length
        · go_wp2
          go_ret
          exact ⟨⟨_, rfl, fun h => by cases h⟩, rfl⟩
        · omega
    · have hje : j = l.length := by omega
      subst hje
      go_wp2
      go_ret
      refine ⟨⟨_, rfl, fun h => ⟨?_, fun i hi => hS.out i hi hi⟩⟩, rfl⟩
      have h2 : decide ((60 : Int) < (l.length : Int)) = false := h
      have h3 := of_decide_eq_false h2
      omega
end Go.Proofs.Ytcblcffkppiclaa.Dk
