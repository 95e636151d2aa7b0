/- ChunkAgain's plain half: what is read is put, in its way, as it was. -/
import Derived.Test.YtehbkhddbdgbcaaGreatDoorChPut
import Derived.Test.YtehbkhddbdgbcaaGreatDoorChOut
import Derived.Test.YtehbkhddbdgbcaaGreatDoorPChunkBackx23
import Derived.OpenShut
namespace Go.Proofs.YtehbkhddbdgbcaaGreatDoor.Ch
open Go.RowKit Go.Proofs.YtehbkhddbdgbcaaGreatDoorW.PrintWords Go.Proofs.YtehbkhddbdgbcaaGreatDoorW.PrintLast Go.Proofs.YtehbkhddbdgbcaaGreatDoorW.PrintMore Go.Proofs.YtehbkhddbdgbcaaGreatDoor.PChunkBack Go.Proofs.YtehbkhddbdgbcaaGreatDoor.Bits
set_option linter.unusedVariables false
set_option linter.unusedSimpArgs false
/-! what is put together has the marks and the numbers that it was put together of -/
theorem marks_of {x : List Bool} {f : Nat → S40} (hf : ∀ i, i < x.length → ((f i).f0 == 0) = x.getD i false) : marksOf ((List.range x.length).map f) = x := by
  unfold marksOf
  rw [List.map_map]
  apply List.ext_getElem
  · simp
  · intro i h1 h2
    rw [List.getElem_map, List.getElem_range]
    show ((f i).f0 == 0) = x[i]
    rw [hf i h2, List.getD_eq_getElem?_getD, List.getElem?_eq_getElem h2]
    rfl
theorem ints_of (x : List Bool) (is : List Int) : ∀ i, i ≤ x.length → is.length + cnt x x.length = x.length → intsOf (outI x is i) = is.take (i - cnt x i) := by
  intro i
  induction i with
  | zero => intro _ _; rfl
  | succ i ih =>
    intro hi hs
    have h := ih (by omega) hs
    have hc := cnt_succ x i
    have hle := cnt_le x i
    have hap : ∀ v : S40, intsOf (outI x is i ++ [v]) = intsOf (outI x is i) ++ intsOf [v] := fun v => by unfold intsOf; rw [List.filter_append, List.map_append]
    rw [outI_succ, hap, h]
    unfold valI
    cases hb : x.getD i false
    · rw [hb] at hc
      simp only [Bool.toInt_false] at hc
      have hlt := free_lt x hs hi hb
      rw [if_neg (by decide), show i + 1 - cnt x (i + 1) = (i - cnt x i) + 1 from by omega, List.take_succ_eq_append_getElem hlt, List.getD_eq_getElem?_getD, List.getElem?_eq_getElem hlt]
      rfl
    · rw [hb] at hc
      simp only [Bool.toInt_true] at hc
      rw [if_pos rfl, show i + 1 - cnt x (i + 1) = i - cnt x i from by omega]
      show _ ++ [] = _
      rw [List.append_nil]
theorem words_of (x : List Bool) (ws : List ByteArray) : ∀ i, i ≤ x.length → ws.length + cnt x x.length = x.length → wordsOf (outW x ws i) = ws.take (i - cnt x i) := by
  intro i
  induction i with
  | zero => intro _ _; rfl
  | succ i ih =>
    intro hi hs
    have h := ih (by omega) hs
    have hc := cnt_succ x i
    have hle := cnt_le x i
    have hap : ∀ v : S40, wordsOf (outW x ws i ++ [v]) = wordsOf (outW x ws i) ++ wordsOf [v] := fun v => by unfold wordsOf; rw [List.filter_append, List.map_append]
    rw [outW_succ, hap, h]
    unfold valW
    cases hb : x.getD i false
    · rw [hb] at hc
      simp only [Bool.toInt_false] at hc
      have hlt := free_lt x hs hi hb
      rw [if_neg (by decide), show i + 1 - cnt x (i + 1) = (i - cnt x i) + 1 from by omega, List.take_succ_eq_append_getElem hlt, List.getD_eq_getElem?_getD, List.getElem?_eq_getElem hlt]
      rfl
    · rw [hb] at hc
      simp only [Bool.toInt_true] at hc
      rw [if_pos rfl, show i + 1 - cnt x (i + 1) = i - cnt x i from by omega]
      show _ ++ [] = _
      rw [List.append_nil]
theorem getD_mem {α : Type} {l : List α} {d : α} {P : α → Prop} (h : ∀ v ∈ l, P v) (hd : P d) (i : Nat) : P (l.getD i d) := by
  rw [List.getD_eq_getElem?_getD]
  by_cases hi : i < l.length
  · rw [List.getElem?_eq_getElem hi]; exact h _ (List.getElem_mem hi)
  · rw [List.getElem?_eq_none (by omega)]; exact hd
theorem blob_le : ∀ (L : List ByteArray) (s : ByteArray), s ∈ L → s.size ≤ (Pure.blobs L).length
  | t :: r, s, h => by
    have h4 : (Pure.blob t).length = (leb t.size).length + t.size := by unfold Pure.blob; rw [List.length_append, num_PutBlobS.bs_length]
    rw [Pure.blobs, List.length_append, h4]
    rcases List.mem_cons.1 h with rfl | h
    · omega
    · have := blob_le r s h; omega
theorem word_le {ws : List ByteArray} {s : ByteArray} (h : s ∈ ws) : s.size ≤ (Pure.textOf ws).length := by
  have := blob_le (Pure.tl ws) s ((Pure.tl_mem ws s).2 h)
  unfold Pure.textOf
  simp only [List.length_append]
  omega
/-- What is read is put as it was. -/
theorem get_back {b : List Int} (hw : ∀ x ∈ b, 0 ≤ x ∧ x < 256) (hl : b.length ≤ 800) {kind n : Int} (hn : n ≤ 300 ∨ 65536 < n) {l : List S40} (h : getV b kind n = (l, 0)) :
    Fine l ∧ (kind = 1 ∨ kind = 2) ∧ checkOf l kind = 0 ∧ ∃ way : Int, ofB way kind = true ∧ layOf l way.toNat = b ∧ (someNull l = false → ∃ r, b = 0 :: way :: r) ∧ (someNull l = true → ∃ r, b = 1 :: r) := by
  unfold getV at h
  by_cases h1 : ¬ (kind = 1 ∨ kind = 2) ∨ n < 0 ∨ 65536 < n
  · rw [if_pos h1] at h; exact absurd (congrArg Prod.snd h) (show ¬ (1 : Int) = 0 by decide)
  rw [if_neg h1] at h
  have hk : kind = 1 ∨ kind = 2 := Classical.not_not.1 (fun e => h1 (.inl e))
  have h2 : ¬ n < 0 := fun e => h1 (.inr (.inl e))
  have h3 : ¬ 65536 < n := fun e => h1 (.inr (.inr e))
  clear h1
  obtain ⟨N, rfl⟩ := Int.eq_ofNat_of_zero_le (show 0 ≤ n by omega)
  rw [Int.toNat_natCast] at h
  have hN : N ≤ 300 := by omega
  by_cases hf : frontErr b N = 0
  case neg => rw [if_pos hf] at h; exact absurd (congrArg Prod.snd h) hf
  rw [if_neg (by omega)] at h
  obtain ⟨hxl, _, ha, hb⟩ := head_ok hw (by omega) (by omega) hf
  generalize headOf b N = hd at *
  obtain ⟨x, way, at_⟩ := hd
  dsimp only at hxl ha hb h
  have hwr : ∀ z ∈ b.drop at_, 0 ≤ z ∧ z < 256 := fun z hz => hw z (List.mem_of_mem_drop hz)
  have hlr : (b.drop at_).length ≤ 800 := by rw [List.length_drop]; omega
  have hcl := cnt_le x x.length
  subst hxl
  have fin : ∀ (hw0 : 0 ≤ way) (hm : marksOf l = x) (hp : wayOf l way.toNat = b.drop at_), layOf l way.toNat = b ∧ (someNull l = false → ∃ r, b = 0 :: way :: r) ∧ (someNull l = true → ∃ r, b = 1 :: r) := by
    intro hw0 hm hp
    have hs : someNull l = x.any id := by unfold someNull; rw [hm]
    refine ⟨?_, fun e => ?_, fun e => ?_⟩
    · unfold layOf frontOf
      rw [hp, hs, hm, Int.toNat_of_nonneg hw0]
      exact hb.symm
    · rw [← hs, e] at hb
      exact ⟨_, hb⟩
    · rw [← hs, e] at hb
      exact ⟨_, hb⟩
  unfold bodyOf at h
  rcases hk with rfl | rfl
  · rw [if_neg (by decide)] at h
    by_cases hy : 0 ≤ way ∧ way ≤ 4
    case neg => rw [if_neg hy] at h; exact absurd (congrArg Prod.snd h) (show ¬ (11 : Int) = 0 by decide)
    rw [if_pos hy] at h
    have hlen := fun z => @intv_len way (b.drop at_) z ((x.length : Int) - cnt x x.length) hwr
    have hback : ∀ z, intv way (b.drop at_) ((x.length : Int) - cnt x x.length) = (z, 0) → (∀ y ∈ z, -9223372036854775808 ≤ y ∧ y ≤ 9223372036854775807) ∧ ∀ l' : List S40, intsOf l' = z → wayOf l' way.toNat = b.drop at_ := by
      intro z hz
      rcases ways hy with rfl | rfl | rfl | rfl | rfl
      · obtain ⟨p1, _, p3⟩ := Pure.plain_put_get hwr (show Pure.getv _ _ = (z, 0) from hz)
        exact ⟨p3, fun l' e => by show Pure.plainOf (intsOf l') = _; rw [e, p1]⟩
      · obtain ⟨p1, _, p3⟩ := Pure.runs_put_get hwr (show Pure.rgetv _ _ = (z, 0) from hz)
        exact ⟨p3, fun l' e => by show runForm (runsOf (intsOf l')) = _; rw [e, p1]⟩
      · obtain ⟨p1, _, p3⟩ := Pure.delta_put_get hwr (show Pure.deltav _ _ = (z, 0) from hz)
        exact ⟨p3, fun l' e => by show Pure.deltaOf (intsOf l') = _; rw [e, p1]⟩
      · obtain ⟨p1, _, p3⟩ := Pure.dict_put_get hwr (show Pure.dictv _ _ = (z, 0) from hz)
        exact ⟨p3, fun l' e => by show Pure.dictOf (intsOf l') = _; rw [e, p1]⟩
      · obtain ⟨p1, _, p3⟩ := Pure.fore_put_get hwr (show Pure.forev _ _ = (z, 0) from hz)
        exact ⟨p3, fun l' e => by show Pure.foreOf (intsOf l') = _; rw [e, p1]⟩
    generalize intv way (b.drop at_) ((x.length : Int) - cnt x x.length) = r at *
    obtain ⟨is, er⟩ := r
    dsimp only at h
    obtain rfl : er = 0 := congrArg Prod.snd h
    rw [if_pos rfl] at h
    obtain rfl : outI x is x.length = l := congrArg Prod.fst h
    have hs : is.length + cnt x x.length = x.length := by have := hlen is rfl; omega
    obtain ⟨hi64, hform⟩ := hback is rfl
    have hm : marksOf (outI x is x.length) = x := marks_of (fun i hi => by unfold valI; cases x.getD i false <;> rfl)
    have hi : intsOf (outI x is x.length) = is := by
      rw [ints_of x is x.length (Nat.le_refl _) hs]
      exact List.take_of_length_le (by omega)
    have hv : ∀ v ∈ outI x is x.length, v = z40 ∨ ∃ y, v = ⟨1, y, ⟨#[]⟩⟩ ∧ -9223372036854775808 ≤ y ∧ y ≤ 9223372036854775807 := by
      intro v hv
      obtain ⟨i, _, rfl⟩ := List.mem_map.1 hv
      unfold valI
      cases x.getD i false
      · exact .inr ⟨_, rfl, getD_mem hi64 (by decide) _⟩
      · exact .inl rfl
    refine ⟨⟨by simp [outI]; omega, fun v h' => ?_, fun v h' => ?_⟩, .inl rfl, ?_, way, decide_eq_true (.inl ⟨rfl, hy⟩), fin hy.1 hm (hform _ hi)⟩
    · rcases hv v h' with rfl | ⟨y, rfl, _⟩
      · decide
      · exact (show (0 : Nat) ≤ 1000 by decide)
    · rcases hv v h' with rfl | ⟨y, rfl, q⟩
      · decide
      · exact q
    · unfold checkOf
      have : (outI x is x.length).all (fun v => rightB v 1) = true := by
        rw [List.all_eq_true]
        intro v h'
        rcases hv v h' with rfl | ⟨y, rfl, _⟩
        · simp [rightB, z40, empty_list]
        · simp [rightB, empty_list]
      rw [this]; rfl
  · rw [if_pos rfl] at h
    by_cases hy : way = 5
    case neg => rw [if_neg hy] at h; exact absurd (congrArg Prod.snd h) (show ¬ (11 : Int) = 0 by decide)
    rw [if_pos hy] at h
    subst hy
    have hlen := fun z => @Pure.text_len (b.drop at_) z ((x.length : Int) - cnt x x.length)
    have hback := fun z => @Pure.text_put_get (b.drop at_) hwr ((x.length : Int) - cnt x x.length) z
    generalize Pure.textv (b.drop at_) ((x.length : Int) - cnt x x.length) = r at *
    obtain ⟨ws, er⟩ := r
    dsimp only at h
    obtain rfl : er = 0 := congrArg Prod.snd h
    rw [if_pos rfl] at h
    obtain rfl : outW x ws x.length = l := congrArg Prod.fst h
    have hs : ws.length + cnt x x.length = x.length := by have := hlen ws rfl; omega
    obtain ⟨hform, _, _⟩ := hback ws rfl
    have hsz : ∀ s ∈ ws, s.size ≤ 1000 := fun s h' => by have := word_le h'; rw [hform] at this; omega
    have hm : marksOf (outW x ws x.length) = x := marks_of (fun i hi => by unfold valW; cases x.getD i false <;> rfl)
    have hi : wordsOf (outW x ws x.length) = ws := by
      rw [words_of x ws x.length (Nat.le_refl _) hs]
      exact List.take_of_length_le (by omega)
    have hv : ∀ v ∈ outW x ws x.length, v = z40 ∨ ∃ s : ByteArray, v = ⟨2, 0, s⟩ ∧ s.size ≤ 1000 := by
      intro v hv
      obtain ⟨i, _, rfl⟩ := List.mem_map.1 hv
      unfold valW
      cases x.getD i false
      · exact .inr ⟨_, rfl, getD_mem hsz (by decide) _⟩
      · exact .inl rfl
    refine ⟨⟨by simp [outW]; omega, fun v h' => ?_, fun v h' => ?_⟩, .inr rfl, ?_, 5, by decide, fin (by decide) hm (by show Pure.textOf (wordsOf _) = _; rw [hi, hform])⟩
    · rcases hv v h' with rfl | ⟨y, rfl, q⟩
      · decide
      · exact q
    · rcases hv v h' with rfl | ⟨y, rfl, q⟩
      · decide
      · exact (show (-9223372036854775808 : Int) ≤ 0 ∧ (0 : Int) ≤ 9223372036854775807 by decide)
    · unfold checkOf
      have : (outW x ws x.length).all (fun v => rightB v 2) = true := by
        rw [List.all_eq_true]
        intro v h'
        rcases hv v h' with rfl | ⟨y, rfl, _⟩
        · simp [rightB, z40, empty_list]
        · simp [rightB]
      rw [this]; rfl
theorem get_none (b : List Int) (kind n : Int) (h : (getV b kind n).2 ≠ 0) : (getV b kind n).1 = [] := by
  unfold getV at h ⊢
  split
  · rfl
  split
  · rfl
  rename_i h1 h2
  rw [if_neg h1, if_neg h2] at h
  unfold bodyOf at h ⊢
  split
  · rename_i h3
    rw [if_pos h3] at h
    split
    · rename_i h4
      rw [if_pos h4] at h
      exact if_neg h
    · rfl
  · rename_i h3
    rw [if_neg h3] at h
    split
    · rename_i h4
      rw [if_pos h4] at h
      exact if_neg h
    · rfl
theorem lay_len {l : List S40} (h : Fine l) (w : Nat) : (layOf l w).length ≤ 500000 := by
  have h1 := front_len l
  have h2 := way_len h w
  have h3 := h.n
  unfold layOf
  simp only [List.length_append, List.length_singleton]
  omega
theorem again_l0 {b : List Int} {l : List S40} (h : Fine l) {kind way : Int} (hk : kind = 1 ∨ kind = 2) (hc : checkOf l kind = 0) (ho : ofB way kind = true) (hb : layOf l way.toNat = b) : ∀ (d i : Nat), way = ((i + d : Nat) : Int) →
    Ev (fun k => estreatlaw14_ChunkAgain.l0 k b kind l i) true := by
  have hwy := of_way ho
  have hll : ∀ w, (layOf l w).length ≤ 9000000 := fun w => by have := lay_len h w; omega
  intro d
  induction d with
  | zero =>
    intro i hi
    obtain rfl : way = (i : Int) := by omega
    refine Ev.step (f := fun k => _) (fun k => by simp only [estreatlaw14_ChunkAgain.l0]; rw [if_pos (by omega)]) ?_
    refine Ev.bind (put_way h hk hc ho) ?_
    simp only [if_true]
    refine Ev.bind (same_ev _ b (hll _)) ?_
    rw [decide_eq_true hb]
    simp only [if_true]
    exact Ev.bind awake_ev (Ev.now _)
  | succ d ih =>
    intro i hi
    have hn := ih (i + 1) (by omega)
    refine Ev.step (f := fun k => _) (fun k => by simp only [estreatlaw14_ChunkAgain.l0]; rw [if_pos (by omega), up (by omega)]) ?_
    cases ho2 : ofB (i : Int) kind
    · refine Ev.bind (put_of l hk (by omega) ho2) ?_
      simp only [if_neg (show ¬ ((1 : Int) = 0) by decide)]
      exact hn
    · refine Ev.bind (put_way h hk hc ho2) ?_
      simp only [if_true]
      refine Ev.bind (same_ev _ b (hll _)) ?_
      by_cases e : layOf l ((i : Int)).toNat = b
      · rw [decide_eq_true e]
        simp only [if_true]
        exact Ev.bind awake_ev (Ev.now _)
      · rw [decide_eq_false e]
        simp only [if_neg (show ¬ (false = true) by decide)]
        exact hn
theorem law_again (b : List Int) (hw : ∀ x ∈ b, 0 ≤ x ∧ x < 256) (kind n : Int) : Ev (fun k => estreatlaw14_ChunkAgain.f k b kind n) true := by
  have out : Ev (fun k => estreatlaw14_ChunkAgain.j0 k b kind n true) true :=
    Ev.step (f := fun k => (estreatlaw14_awake.f k).bind fun t => some t) (fun k => by simp only [estreatlaw14_ChunkAgain.j0]; rfl) (Ev.bind awake_ev (Ev.now _))
  have main : b.length ≤ 800 → (n ≤ 300 ∨ 65536 < n) → Ev (fun k => estreatlaw14_ChunkAgain.j0 k b kind n false) true := by
    intro hl hn
    refine Ev.step (f := fun k => _) (fun k => by simp only [estreatlaw14_ChunkAgain.j0]; rw [if_neg (by decide)]) ?_
    have hg : Ev (fun k => chunk_Get.f k b kind n) (getV b kind n) := ⟨0, fun k _ => by show getOf k b kind n = _; unfold getOf; rw [if_pos ⟨by omega, hw⟩]⟩
    refine Ev.bind hg ?_
    by_cases he : (getV b kind n).2 = 0
    · simp only [if_pos he]
      obtain ⟨hf, hk, hc, way, ho, hlay, hz, ho1⟩ := get_back hw hl hn (show getV b kind n = ((getV b kind n).1, 0) from by rw [← he])
      generalize (getV b kind n).1 = l at *
      have hwy := of_way ho
      cases hs : someNull l
      · obtain ⟨r, hr⟩ := hz hs
        have hway : chunk_Way.f b = some way := by
          rw [hr]
          unfold chunk_Way.f
          have hL : ((0 :: way :: r).length : Int) = (r.length : Int) + 2 := by rw [List.length_cons, List.length_cons]; omega
          rw [hL, if_neg (by omega), if_pos (by omega), if_pos (show rd (0 :: way :: r) 0 = 0 from rfl), if_pos (by omega)]
          show some (wrap64 way) = _
          rw [w64 (by omega) (by omega)]
        refine Ev.bind ⟨0, fun _ _ => hway⟩ ?_
        simp only [if_pos (show way ≥ 0 by omega)]
        refine Ev.bind (put_way hf hk hc ho) ?_
        simp only [if_true]
        refine Ev.bind (same_ev _ b (by have := lay_len hf way.toNat; omega)) ?_
        rw [decide_eq_true hlay]
        simp only [if_true]
        exact Ev.bind awake_ev (Ev.now _)
      · obtain ⟨r, hr⟩ := ho1 hs
        have hway : chunk_Way.f b = some (-1) := by
          rw [hr]
          unfold chunk_Way.f
          by_cases h2 : (((1 : Int) :: r).length : Int) < 2
          · rw [if_pos h2]
          · rw [if_neg h2, if_pos (by simp), if_neg (show ¬ rd ((1 : Int) :: r) 0 = 0 by show ¬ (1 : Int) = 0; decide)]
        refine Ev.bind ⟨0, fun _ _ => hway⟩ ?_
        simp only [if_neg (show ¬ (-1 : Int) ≥ 0 by decide)]
        exact again_l0 hf hk hc ho hlay way.toNat 0 (by omega)
    · simp only [if_neg he, get_none b kind n he, List.length_nil, Int.ofNat_eq_natCast, Int.natCast_zero, if_true]
      exact Ev.bind awake_ev (Ev.now _)
  unfold estreatlaw14_ChunkAgain.f
  by_cases h1 : (b.length : Int) > 800
  · simp only [if_pos h1]; exact out
  simp only [if_neg h1]
  by_cases h2 : n > 300
  · simp only [if_pos h2]
    by_cases h3 : n ≤ 65536
    · rw [decide_eq_true h3]; exact out
    · rw [decide_eq_false h3]; exact main (by omega) (.inr (by omega))
  · simp only [if_neg h2]; exact main (by omega) (.inl (by omega))
end Go.Proofs.YtehbkhddbdgbcaaGreatDoor.Ch
namespace Go.Proofs.YtehbkhddbdgbcaaGreatDoor.Ch
open Go.RowKit Go.Proofs.YtehbkhddbdgbcaaGreatDoorW.PrintWords Go.Proofs.YtehbkhddbdgbcaaGreatDoorW.PrintLast Go.Proofs.YtehbkhddbdgbcaaGreatDoorW.PrintMore Go.Proofs.YtehbkhddbdgbcaaGreatDoor.PChunkBack
theorem row_of0 {k : IntKind} {w : World} {a : Option Addr} {len cap : Nat} {zs : List Int} (h : (a = none ∧ len = 0 ∧ cap = 0 ∧ zs = []) ∨ ∃ x, a = some x ∧ len ≤ cap ∧ cap ≤ maxLen ∧ zs.length = cap ∧ (∀ i, i < zs.length → w.cell? (x.add i) = some (.int k (zs.getD i 0))) ∧ ∀ n ∈ zs, (Lit.int k n).wf = true) :
    ∃ l : List Int, len = l.length ∧ ReadsInt w k a l.length l ∧ l.length ≤ maxLen ∧ ∀ x ∈ l, (Lit.int k x).wf = true := by
  rcases h with ⟨rfl, rfl, rfl, rfl⟩ | ⟨x, rfl, hl, hm, hz, hc, hw⟩
  · exact ⟨[], rfl, ReadsInt.nil _ _, Nat.zero_le _, fun x hx => by simp at hx⟩
  · have e : (zs.take len).length = len := by simp; omega
    have hm' : len ≤ maxLen := Nat.le_trans hl hm
    refine ⟨zs.take len, e.symm, ⟨rfl, by rw [e]; simpa [maxLen] using hm', fun _ => ⟨x, rfl, fun j hj => ?_⟩⟩, by rw [e]; exact hm', fun y hy => hw y (List.mem_of_mem_take hy)⟩
    rw [e] at hj
    rw [hc j (by omega)]
    simp [List.getD, List.getElem?_take, hj]
theorem row_of {k : IntKind} {w : World} {a : Option Addr} {len cap : Nat} {zs : List Int} (h : (a = none ∧ len = 0 ∧ cap = 0 ∧ zs = []) ∨ ∃ x, a = some x ∧ len ≤ cap ∧ cap ≤ maxLen ∧ zs.length = cap ∧ (∀ i, i < zs.length → w.cell? (x.add i) = some (.int k (zs.getD i 0))) ∧ ∀ n ∈ zs, (Lit.int k n).wf = true) :
    ∃ l : List Int, len = l.length ∧ ReadsInt w k a l.length l ∧ l.length ≤ maxLen ∧ (∀ x ∈ l, (Lit.int k x).wf = true) ∧ l.length ≤ cap := by
  have hl : len ≤ cap := by
    rcases h with ⟨_, rfl, rfl, _⟩ | ⟨_, _, h, _⟩
    · exact Nat.le_refl _
    · exact h
  obtain ⟨l, e, h1, h2, h3⟩ := row_of0 h
  exact ⟨l, e, h1, h2, h3, e ▸ hl⟩
theorem chunkAgain_any (A : Option Addr) (b : List Int) (c : Nat) (kind n : Int) (w : World) (hr : Kd.C (Kd.int .u8) w A b.length b ∧ b.length ≤ c ∧ ∀ x ∈ b, 0 ≤ x ∧ x < 256) (hG : HG w) :
    Calls Tryz.prog 5 #[.slice A b.length c, .int .i64 kind, .int .i64 n] w fun e w' => e = .returned (.bool true) ∧ Below w.heap.size w w' := by
  obtain ⟨k, hk⟩ := (law_again b hr.2.2 kind n).rounds
  exact estreatlaw14_ChunkAgain.calls k A c b kind n true w hr.1 hr.2.1 hG hk rfl
theorem chunkAgain_row (a : Option Addr) (len cap : Nat) (z : List Int) (kind n : Int) (w : World) (w0 : (a = none ∧ len = 0 ∧ cap = 0 ∧ z = []) ∨ ∃ x, a = some x ∧ len ≤ cap ∧ cap ≤ maxLen ∧ z.length = cap ∧ (∀ i, i < z.length → w.cell? (x.add i) = some (.int .u8 (z.getD i 0))) ∧ ∀ n ∈ z, (Lit.int .u8 n).wf = true)
    (_ : len * 1 ≤ 140737488351232) (_ : (Lit.int .i64 kind).wf = true) (_ : (Lit.int .i64 n).wf = true) (hG : HG w) :
    Calls Tryz.prog 5 #[.slice a len cap, .int .i64 kind, .int .i64 n] w fun e w' => e = .returned (.bool true) ∧ Below w.heap.size w w' := by
  obtain ⟨l0, rfl, hr0, hm0, hw0, hc0⟩ := row_of w0
  refine chunkAgain_any a l0 cap kind n w ⟨Kd.C_of_reads (d := (0 : Int)) (h1 := fun _ => rfl) hr0, hc0, fun x hx => ?_⟩ hG
  have := hw0 x hx
  simp [Lit.wf, IntKind.min, IntKind.max, IntKind.signed, IntKind.bits] at this
  omega
end Go.Proofs.YtehbkhddbdgbcaaGreatDoor.Ch
