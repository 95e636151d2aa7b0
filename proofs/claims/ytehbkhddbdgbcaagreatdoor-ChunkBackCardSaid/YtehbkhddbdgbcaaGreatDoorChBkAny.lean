/- A slice of structs of one-cell fields that came in: each field's cell (after the guide's page on structs). -/
import Derived.Deep.Slices
import Derived.Deep.Fields
import Derived.ChangeSame
import Derived.Test.YtehbkhddbdgbcaaGreatDoorPChunkBackx1
import Derived.OpenShut
import Derived.Test.YtehbkhddbdgbcaaGreatDoorChLw
import Derived.Test.YtehbkhddbdgbcaaGreatDoorPChunkBackx19
namespace Go.Proofs.YtehbkhddbdgbcaaGreatDoor.Slf
open Go.ChangeShapes Go.WideShapes Go.Deep
section
variable {H : Type} {enc : TypeId × Value → H} {P : Program} {w : World} {base : Nat} {spare : Nat → Bool} {held : Bool}
theorem open_slice_fields {t e : TypeId} {fs : Array Field} {fuel : Nat} {cs : List Value} {x : DataW H × List MemPlace} (ht : P.underlying t = some (.slice e)) (he : P.underlying e = some (.struct fs))
    (hone : oneCellFields P fs = true) (hC : P.cellsOf e = fs.size) (h : DataW.trod enc P w base spare held fuel t cs = some x) :
    (cs = [.slice none 0 0] ∧ x = (.nil, [])) ∨
    ∃ (a : Addr) (len cap m : Nat) (D : Nat → DataW H) (Pl : Nat → List MemPlace), cs = [.slice (some a) len cap] ∧ base ≤ a.block ∧ len ≤ cap ∧ cap ≤ maxLen ∧ m = (if spare a.block then cap else len) ∧
      x = (.slice ((List.range len).map D) ((List.range (m - len)).map fun j => D (len + j)), MemPlace.row a (m * fs.size) ++ (List.range m).flatMap Pl) ∧
      ∀ i, i < m → ∃ (ys : List (DataW H × List MemPlace)) (n : Nat), D i = .agg (ys.map (·.1)) ∧ Pl i = ys.flatMap (·.2) ∧ ys.length = fs.size ∧
        ∀ (j : Nat) (f : Field), fs[j]? = some f → ∃ (v : Value) (y : DataW H × List MemPlace), w.cell? (a.add (i * fs.size + j)) = some v ∧ ys[j]? = some y ∧ DataW.trod enc P w base spare held n f.type [v] = some y := by
  rcases open_slice ht h with h0 | ⟨a, len, cap, m, n, D, Pl, hcs, hb, hl, hm, hmm, hx, hi⟩
  · exact .inl h0
  · refine .inr ⟨a, len, cap, m, D, Pl, hcs, hb, hl, hm, hmm, by rw [hC] at hx; exact hx, fun i him => ?_⟩
    obtain ⟨cs', hc, ht'⟩ := hi i him
    rw [hC] at hc
    obtain ⟨ys, n', hn', hy, hlen, hyl, hf⟩ := DataW.trod_struct he ht'
    obtain ⟨_, hcl, hat⟩ := World.cells?_some hc
    simp only [Prod.mk.injEq] at hy
    refine ⟨ys, n', hy.1, hy.2, hyl, fun j f hj => ?_⟩
    obtain ⟨ho, hk⟩ := hone_of hone j f hj
    have hjl : j < fs.size := (Array.getElem?_eq_some_iff.1 hj).1
    have hcell := hat j hjl
    have hv : cs'[j]? = some (cs'[j]'(by omega)) := List.getElem?_eq_getElem (by omega)
    have h1 := hf j f hj
    rw [ho, hk] at h1
    have hone' : (cs'.drop j).take 1 = [cs'[j]'(by omega)] := by
      rw [List.drop_eq_getElem_cons (by omega)]
      rfl
    rw [hone'] at h1
    have hys : ys[j]? = some (ys[j]'(by omega)) := List.getElem?_eq_getElem (by omega)
    refine ⟨_, _, ?_, hys, h1.trans hys⟩
    rw [← Go.Deep.add_add, hcell, hv]
end
end Go.Proofs.YtehbkhddbdgbcaaGreatDoor.Slf
namespace Go.Proofs.YtehbkhddbdgbcaaGreatDoor.Ch
open Go.RowKit Go.ChangeShapes Go.WideShapes Go.Deep Go.Proofs.YtehbkhddbdgbcaaGreatDoorW.PrintWords Go.Proofs.YtehbkhddbdgbcaaGreatDoorW.PrintLast Go.Proofs.YtehbkhddbdgbcaaGreatDoorW.PrintMore Go.Proofs.YtehbkhddbdgbcaaGreatDoor.PChunkBack
set_option linter.unusedVariables false
set_option linter.unusedSimpArgs false
theorem pick_list {α : Type} {n : Nat} {P : Nat → α → Prop} (h : ∀ i, i < n → ∃ x, P i x) : ∃ l : List α, l.length = n ∧ ∀ i (hi : i < l.length), P i l[i] := by
  induction n with
  | zero => exact ⟨[], rfl, fun i hi => absurd hi (by simp)⟩
  | succ n ih =>
    obtain ⟨l, hl, hP⟩ := ih (fun i hi => h i (by omega))
    obtain ⟨x, hx⟩ := h n (by omega)
    refine ⟨l ++ [x], by simp [hl], fun i hi => ?_⟩
    by_cases e : i < l.length
    · rw [List.getElem_append_left e]; exact hP i e
    · have e2 : i = n := by simp at hi; omega
      subst e2
      rw [List.getElem_append_right (by omega)]
      simpa [hl] using hx
theorem b64 {x : Int} (h : (Lit.int .i64 x).wf = true) : -9223372036854775808 ≤ x ∧ x ≤ 9223372036854775807 := by
  simp [Lit.wf, IntKind.min, IntKind.max, IntKind.signed, IntKind.bits] at h; omega
section
variable {H : Type} {enc : TypeId × Value → H} {W : World}
theorem open40 {a : Option Addr} {len cap : Nat} {d : DataW H} {p : List MemPlace} (h : DataW.Trod enc Tryz.prog W 0 (fun _ => true) true 22 (.slice a len cap) d p) : ∃ l : List S40, l.length = len ∧ (Kd.C k40 W a l.length l ∧ l.length ≤ cap ∧ ∀ v ∈ l, -9223372036854775808 ≤ v.f1 ∧ v.f1 ≤ 9223372036854775807) := by
  obtain ⟨fuel, hf⟩ := h
  rcases Slf.open_slice_fields Tryz.underlying22 Tryz.underlying40 (by kernel_rfl) (by kernel_rfl) hf with ⟨hcs, _⟩ | ⟨ad, len', cap', m, D, Pl, hcs, _, hl, hm, hmm, _, hi⟩
  · simp [Value.cells] at hcs
    obtain ⟨rfl, rfl, rfl⟩ := hcs
    exact ⟨[], rfl, ⟨rfl, by decide, fun h => absurd h (by decide)⟩, Nat.zero_le _, fun v hv => absurd hv (by simp)⟩
  · simp [Value.cells] at hcs
    obtain ⟨rfl, rfl, rfl⟩ := hcs
    have hex : ∀ i, i < len → ∃ x : S40, (∀ j u, ([.int .i64 x.f0, .int .i64 x.f1, .string x.f2] : List Value)[j]? = some u → W.cell? (ad.add (i * 3 + j)) = some u) ∧ (-9223372036854775808 ≤ x.f1 ∧ x.f1 ≤ 9223372036854775807) := by
      intro i hi2
      have him : i < m := by rw [hmm]; split <;> omega
      obtain ⟨ys, n, _, _, _, hf2⟩ := hi i him
      obtain ⟨u0, y0, hc0, _, ht0⟩ := hf2 0 _ rfl
      obtain ⟨u1, y1, hc1, _, ht1⟩ := hf2 1 _ rfl
      obtain ⟨u2, y2, hc2, _, ht2⟩ := hf2 2 _ rfl
      obtain ⟨x0, e0, _, wx0⟩ := DataW.trod_int Tryz.underlying3 ht0
      obtain ⟨x1, e1, _, wx1⟩ := DataW.trod_int Tryz.underlying2 ht1
      obtain ⟨s2, e2, _, ws2⟩ := DataW.trod_string Tryz.underlying9 ht2
      simp at e0 e1 e2
      subst e0 e1 e2
      refine ⟨⟨x0, x1, s2⟩, fun j u hj => ?_, b64 wx1⟩
      match j, hj with
      | 0, hj => injection hj with hj; subst hj; exact hc0
      | 1, hj => injection hj with hj; subst hj; exact hc1
      | 2, hj => injection hj with hj; subst hj; exact hc2
      | j + 3, hj => cases hj
    obtain ⟨l, hl2, hP⟩ := pick_list hex
    refine ⟨l, hl2, ⟨rfl, by have : maxLen ≤ 9223372036854775807 := by decide
                             omega, fun _ => ⟨ad, rfl, fun j p hp => ?_⟩⟩, by omega, fun v hv => ?_⟩
    · obtain ⟨hj, rfl⟩ := List.getElem?_eq_some_iff.1 hp
      exact ⟨[.int .i64 l[j].f0, .int .i64 l[j].f1, .string l[j].f2], rfl, k40_mk _ _, (hP j hj).1⟩
    · obtain ⟨j, hj, rfl⟩ := List.getElem_of_mem hv
      exact (hP j hj).2
end
end Go.Proofs.YtehbkhddbdgbcaaGreatDoor.Ch
namespace Go.Proofs.YtehbkhddbdgbcaaGreatDoor.Ch
open Go.RowKit Go.Proofs.YtehbkhddbdgbcaaGreatDoorW.PrintWords Go.Proofs.YtehbkhddbdgbcaaGreatDoorW.PrintLast Go.Proofs.YtehbkhddbdgbcaaGreatDoorW.PrintMore Go.Proofs.YtehbkhddbdgbcaaGreatDoor.PChunkBack Go.Proofs.YtehbkhddbdgbcaaGreatDoor.Bits
set_option linter.unusedVariables false
set_option linter.unusedSimpArgs false
theorem of_test {i : Nat} {kind : Int} (hk : kind = 1 ∨ kind = 2) (hi : i < 6) : (((i : Int) == 5) == (kind == 2)) = ofB (i : Int) kind := by
  unfold ofB
  rcases hk with rfl | rfl
  · by_cases h : i = 5
    · subst h; rfl
    · have h2 : ((i : Int) == 5) = false := beq_eq_false_iff_ne.2 (by omega)
      rw [h2, decide_eq_true (by omega)]; rfl
  · by_cases h : i = 5
    · subst h; rfl
    · have h2 : ((i : Int) == 5) = false := beq_eq_false_iff_ne.2 (by omega)
      rw [h2, decide_eq_false (by omega)]; rfl
theorem back_l0 {l : List S40} (h : Fine l) {kind : Int} (hk : kind = 1 ∨ kind = 2) (hc : checkOf l kind = 0) {r : Int} (hm : ∀ j : Nat, j < 6 → ofB j kind = true → lenOf l r ≤ lenOf l j) : ∀ (n i : Nat), 6 = i + n →
    Ev (fun k => estreatlaw14_ChunkBack.l0 k l kind (layOf l r.toNat) i) true := by
  intro n
  induction n with
  | zero =>
    intro i hi
    refine Ev.step (f := fun k => (estreatlaw14_awake.f k).bind fun t => some t) (fun k => ?_) (Ev.bind awake_ev (Ev.now _))
    simp only [estreatlaw14_ChunkBack.l0]
    rw [if_neg (by omega)]
  | succ n ih =>
    intro i hi
    have hn := ih (i + 1) (by omega)
    refine Ev.step (f := fun k => _) (fun k => by simp only [estreatlaw14_ChunkBack.l0]; rw [if_pos (by omega), of_test hk (by omega), up (by omega)]) ?_
    cases ho : ofB (i : Int) kind
    · refine Ev.bind (put_of l hk (by omega) ho) ?_
      dsimp only
      simp only [if_neg (show ¬ ((((1 : Int) == 0) != false) = true) by decide), if_neg (show ¬ ((1 : Int) = 0) by decide)]
      exact hn
    · refine Ev.bind (put_way h hk hc ho) ?_
      dsimp only
      simp only [if_neg (show ¬ ((((0 : Int) == 0) != true) = true) by decide), if_true]
      refine Ev.bind (get_f h hk hc ho) ?_
      simp only [if_true]
      refine Ev.bind (same14 l h.n) ?_
      simp only [if_true]
      have hle := hm i (by omega) ho
      have hlt : ¬ ((layOf l ((i : Int)).toNat).length : Int) < ((layOf l r.toNat).length : Int) := by unfold lenOf at hle; omega
      simp only [if_neg hlt]
      exact hn
theorem law_back (l : List S40) (hi : ∀ v ∈ l, -9223372036854775808 ≤ v.f1 ∧ v.f1 ≤ 9223372036854775807) (kind : Int) : Ev (fun k => estreatlaw14_ChunkBack.f k l kind) true := by
  unfold estreatlaw14_ChunkBack.f
  refine Ev.bind (great_f l) ?_
  cases hg : gB l 0
  · have hg2 : l.length ≤ 100 ∧ ∀ v ∈ (l.take 100).drop 0, v.f2.size ≤ 100 := by
      unfold gB at hg
      exact of_decide_eq_true (by simpa using hg)
    rw [List.drop_zero, List.take_of_length_le hg2.1] at hg2
    have h : Fine l := ⟨by omega, fun v hv => Nat.le_trans (hg2.2 v hv) (by decide), hi⟩
    simp only [if_neg (show ¬ (false = true) by decide)]
    have out : ∀ e : Int, e ≠ 0 → (¬ (kind = 1 ∨ kind = 2) ∨ checkOf l kind ≠ 0) → Ev (fun k => chunk_Put.f k l kind (-1)) ([], e) → Ev (fun k => (chunk_Put.f k l kind (-1)).bind fun bt657 => (if bt657.2 = 0 then (estreatlaw14_ChunkBack.l0 k l kind bt657.1 0) else (if (bt657.1.length : Int) = 0 then ((chunk_Best.f k l kind).bind fun t661 => (if t661 = (-1) then ((estreatlaw14_awake.f k).bind fun t662 => (some t662)) else (some false))) else (some false)))) true := by
      intro e he hb hp
      refine Ev.bind hp ?_
      simp only [if_neg he, List.length_nil, Int.ofNat_eq_natCast, Int.natCast_zero, if_true]
      refine Ev.bind (best_no h hb) ?_
      simp only [if_true]
      exact Ev.bind awake_ev (Ev.now _)
    by_cases hk : kind = 1 ∨ kind = 2
    · by_cases hc : checkOf l kind = 0
      · obtain ⟨r, hr, hp, hm⟩ := put_auto h hk hc
        refine Ev.bind hp ?_
        simp only [if_true]
        exact back_l0 h hk hc hm 6 0 (by omega)
      · exact out _ hc (.inr hc) (put_bad h hk (.inl rfl) hc)
    · exact out 1 (by decide) (.inl hk) (put_no l (-1) hk)
  · simp only [if_pos]
    exact Ev.bind awake_ev (Ev.now _)
end Go.Proofs.YtehbkhddbdgbcaaGreatDoor.Ch
namespace Go.Proofs.YtehbkhddbdgbcaaGreatDoor.Ch
open Go.RowKit Go.Proofs.YtehbkhddbdgbcaaGreatDoorW.PrintWords Go.Proofs.YtehbkhddbdgbcaaGreatDoorW.PrintLast Go.Proofs.YtehbkhddbdgbcaaGreatDoorW.PrintMore Go.Proofs.YtehbkhddbdgbcaaGreatDoor.PChunkBack
theorem chunkBack_any (A : Option Addr) (l : List S40) (c : Nat) (kind : Int) (w : World) (hr : Kd.C k40 w A l.length l ∧ l.length ≤ c ∧ ∀ v ∈ l, -9223372036854775808 ≤ v.f1 ∧ v.f1 ≤ 9223372036854775807) (_ : (Lit.int .i64 kind).wf = true) (hG : HG w) :
    Calls Tryz.prog 3 #[.slice A l.length c, .int .i64 kind] w fun e w' => e = .returned (.bool true) ∧ Below w.heap.size w w' := by
  obtain ⟨k, hk⟩ := (law_back l hr.2.2 kind).rounds
  exact estreatlaw14_ChunkBack.calls k A c l kind true w hr.1 hr.2.1 hG hk rfl
end Go.Proofs.YtehbkhddbdgbcaaGreatDoor.Ch
