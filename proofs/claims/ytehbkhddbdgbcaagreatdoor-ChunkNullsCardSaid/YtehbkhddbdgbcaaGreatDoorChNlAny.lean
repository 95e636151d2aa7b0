/- ChunkNulls' plain half: of values that are nothing all of them, each way's chunk is read as these. -/
import Derived.Test.YtehbkhddbdgbcaaGreatDoorChLw
import Derived.Test.YtehbkhddbdgbcaaGreatDoorPChunkBackx20
namespace Go.Proofs.YtehbkhddbdgbcaaGreatDoor.Ch
open Go.RowKit Go.Proofs.YtehbkhddbdgbcaaGreatDoorW.PrintWords Go.Proofs.YtehbkhddbdgbcaaGreatDoorW.PrintLast Go.Proofs.YtehbkhddbdgbcaaGreatDoorW.PrintMore Go.Proofs.YtehbkhddbdgbcaaGreatDoor.PChunkBack Go.Proofs.YtehbkhddbdgbcaaGreatDoor.Bits
set_option linter.unusedVariables false
set_option linter.unusedSimpArgs false
theorem nulls_fine {n : Nat} (hn : n ≤ 300) : Fine (List.replicate n z40) := by
  refine ⟨by simpa using hn, fun v hv => ?_, fun v hv => ?_⟩
  · rw [(List.mem_replicate.1 hv).2]; decide
  · rw [(List.mem_replicate.1 hv).2]; decide
theorem nulls_check (n : Nat) (kind : Int) : checkOf (List.replicate n z40) kind = 0 := by
  unfold checkOf
  have : (List.replicate n z40).all (fun v => rightB v kind) = true := by
    rw [List.all_eq_true]
    intro v hv
    rw [(List.mem_replicate.1 hv).2]
    unfold rightB z40
    simp [empty_list]
  rw [this]
  rfl
theorem law_nulls (n : Nat) (kind way : Int) : Ev (fun k => estreatlaw14_ChunkNulls.f k n kind way) true := by
  unfold estreatlaw14_ChunkNulls.f
  by_cases hn : n ≤ 300
  · have hw : wrap64 (n : Int) = n := by rw [w64 (by omega) (by omega)]
    simp only [if_neg (show ¬ (n : Int) > 300 by omega), hw, if_pos (Int.natCast_nonneg n), Int.toNat_natCast, if_pos (show n ≤ 8796093022208 by omega), Option.bind_some]
    have h := nulls_fine hn
    have hc := nulls_check n kind
    have hl : (List.replicate n z40).length = n := List.length_replicate
    have bad : Ev (fun k => chunk_Put.f k (List.replicate n z40) kind way) ([], 1) → Ev (fun k => (chunk_Put.f k (List.replicate n z40) kind way).bind fun bt658 => (if bt658.2 = 0 then ((chunk_Get.f k bt658.1 kind n).bind fun bt662 => (if bt662.2 = 0 then ((estreatref14_Same.f k bt662.1 (List.replicate n z40)).bind fun t666 => (if t666 = true then ((estreatlaw14_awake.f k).bind fun t667 => (some t667)) else (some false))) else (some false))) else (if bt658.2 = 1 then (if (bt658.1.length : Int) = 0 then ((estreatlaw14_awake.f k).bind fun t668 => (some t668)) else (some false)) else (some false)))) true := by
      intro hp
      refine Ev.bind hp ?_
      simp only [if_neg (show ¬ (1 : Int) = 0 by decide), if_true, List.length_nil, Int.ofNat_eq_natCast, Int.natCast_zero]
      exact Ev.bind awake_ev (Ev.now _)
    have good : ∀ w : Int, (kind = 1 ∨ kind = 2) → ofB w kind = true → Ev (fun k => chunk_Put.f k (List.replicate n z40) kind way) (layOf (List.replicate n z40) w.toNat, 0) → Ev (fun k => (chunk_Put.f k (List.replicate n z40) kind way).bind fun bt658 => (if bt658.2 = 0 then ((chunk_Get.f k bt658.1 kind n).bind fun bt662 => (if bt662.2 = 0 then ((estreatref14_Same.f k bt662.1 (List.replicate n z40)).bind fun t666 => (if t666 = true then ((estreatlaw14_awake.f k).bind fun t667 => (some t667)) else (some false))) else (some false))) else (if bt658.2 = 1 then (if (bt658.1.length : Int) = 0 then ((estreatlaw14_awake.f k).bind fun t668 => (some t668)) else (some false)) else (some false)))) true := by
      intro w hk ho hp
      refine Ev.bind hp ?_
      simp only [if_true]
      have hg := get_f h hk hc ho
      rw [hl] at hg
      refine Ev.bind hg ?_
      simp only [if_true]
      refine Ev.bind (same14 _ h.n) ?_
      simp only [if_true]
      exact Ev.bind awake_ev (Ev.now _)
    by_cases hk : kind = 1 ∨ kind = 2
    · by_cases hw1 : way = -1
      · subst hw1
        obtain ⟨r, hr, hp, _⟩ := put_auto h hk hc
        exact good r hk hr.2 hp
      · cases ho : ofB way kind
        · exact bad (put_of _ hk hw1 ho)
        · exact good way hk ho (put_way h hk hc ho)
    · exact bad (put_no _ way hk)
  · simp only [if_pos (show (n : Int) > 300 by omega)]
    exact Ev.bind awake_ev (Ev.now _)
end Go.Proofs.YtehbkhddbdgbcaaGreatDoor.Ch
namespace Go.Proofs.YtehbkhddbdgbcaaGreatDoor.Ch
open Go.RowKit Go.Proofs.YtehbkhddbdgbcaaGreatDoorW.PrintWords Go.Proofs.YtehbkhddbdgbcaaGreatDoorW.PrintLast Go.Proofs.YtehbkhddbdgbcaaGreatDoorW.PrintMore Go.Proofs.YtehbkhddbdgbcaaGreatDoor.PChunkBack
theorem chunkNulls_any (n kind way : Int) (w : World) (hn : (Lit.int .u16 n).wf = true) (_ : (Lit.int .i64 kind).wf = true) (_ : (Lit.int .i64 way).wf = true) (hG : HG w) :
    Calls Tryz.prog 4 #[.int .u16 n, .int .i64 kind, .int .i64 way] w fun e w' => e = .returned (.bool true) ∧ Below w.heap.size w w' := by
  obtain ⟨m, rfl⟩ := Int.eq_ofNat_of_zero_le (show 0 ≤ n by simp [Lit.wf, IntKind.min, IntKind.max, IntKind.signed, IntKind.bits] at hn; omega)
  obtain ⟨k, hk⟩ := (law_nulls m kind way).rounds
  exact estreatlaw14_ChunkNulls.calls k m kind way true w hG hk rfl
end Go.Proofs.YtehbkhddbdgbcaaGreatDoor.Ch
