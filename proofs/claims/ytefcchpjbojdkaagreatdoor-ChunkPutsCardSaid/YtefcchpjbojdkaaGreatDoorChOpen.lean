/- The chunk that the program lays is the document's: plain facts, no walk. -/
import Derived.Test.YtefcchpjbojdkaaGreatDoorChTailD
import Derived.Test.YtefcchpjbojdkaaGreatDoorChRef
import Derived.Deep.Slices
import Derived.Deep.Fields
import Derived.ChangeSame
import Derived.OpenShut
namespace Go.Proofs.YtefcchpjbojdkaaGreatDoor.Ch
open Go.RowKit Go.Proofs.YtefcchpjbojdkaaGreatDoorW.PrintWords Go.Proofs.YtefcchpjbojdkaaGreatDoorW.PrintLast Go.Proofs.YtefcchpjbojdkaaGreatDoorW.PrintMore Go.Proofs.YtefcchpjbojdkaaGreatDoor.PChunkPuts Go.Proofs.YtefcchpjbojdkaaGreatDoor.Bits
set_option linter.unusedVariables false
set_option linter.unusedSimpArgs false
theorem rd34 {l : List S34} {i : Nat} (h : i < l.length) : rd_T34 l (i : Int) = l[i] := by simp [rd_T34, h]
theorem up {i : Nat} (h : i ≤ 100000) : wrap64 ((i : Int) + 1) = ((i + 1 : Nat) : Int) := by rw [w64 (by omega) (by omega)]; rfl
/-! which values are looked at -/
def gB (l : List S34) (i : Nat) : Bool := !decide (l.length ≤ 100 ∧ ∀ v ∈ (l.take 100).drop i, v.f2.size ≤ 100)
theorem great_out (l : List S34) (i : Nat) (hd : (l.take 100).drop i = []) : Ev (fun k => estreatref14_Great.j1 k l 100 100 i false) (gB l i) := by
  refine Ev.step (f := fun _ => some (gB l i)) (fun k => ?_) (Ev.now _)
  simp only [estreatref14_Great.j1]
  rw [if_neg (by decide)]
  unfold gB
  rw [hd]
  by_cases h : l.length ≤ 100
  · have h2 : ¬ (l.length : Int) > 100 := by omega
    simp [h, h2]
  · have h2 : (l.length : Int) > 100 := by omega
    simp [h, h2]
theorem great_l0 (l : List S34) : ∀ (n i : Nat), 100 ≤ i + n → i ≤ 100 → Ev (fun k => estreatref14_Great.l0 k l 100 100 i) (gB l i) := by
  intro n
  induction n with
  | zero =>
    intro i hi hi2
    refine Ev.step (fun k => ?_) (great_out l i (by simp; omega))
    simp only [estreatref14_Great.l0]
    by_cases h : (i : Int) < l.length
    · rw [if_pos h, decide_eq_false (by omega)]
    · rw [if_neg h]
  | succ n ih =>
    intro i hi hi2
    by_cases h : i < l.length
    · by_cases h1 : i < 100
      · have hdr : (l.take 100).drop i = l[i] :: (l.take 100).drop (i + 1) := by
          rw [List.drop_eq_getElem_cons (by rw [List.length_take]; omega)]; simp
        by_cases hb : l[i].f2.size ≤ 100
        · have hg : gB l i = gB l (i + 1) := by unfold gB; rw [hdr]; simp [hb]
          rw [hg]
          refine Ev.step (f := fun k => estreatref14_Great.j1 k l 100 100 i true) (fun k => ?_) (Ev.step (fun k => ?_) (ih (i + 1) (by omega) (by omega)))
          · simp only [estreatref14_Great.l0]; rw [if_pos (by omega), decide_eq_true (by omega)]
          · simp only [estreatref14_Great.j1]; rw [if_pos trivial, if_pos (by omega), if_pos (by omega), rd34 h, if_neg (by omega), up (by omega)]
        · have hg : gB l i = true := by unfold gB; rw [hdr]; simp [hb]
          rw [hg]
          refine Ev.step (f := fun k => estreatref14_Great.j1 k l 100 100 i true) (fun k => ?_) (Ev.step (f := fun _ => some true) (fun k => ?_) (Ev.now _))
          · simp only [estreatref14_Great.l0]; rw [if_pos (by omega), decide_eq_true (by omega)]
          · simp only [estreatref14_Great.j1]; rw [if_pos trivial, if_pos (by omega), if_pos (by omega), rd34 h, if_pos (by omega)]
      · refine Ev.step (fun k => ?_) (great_out l i (by simp; omega))
        simp only [estreatref14_Great.l0]
        rw [if_pos (by omega), decide_eq_false (by omega)]
    · refine Ev.step (fun k => ?_) (great_out l i (by simp; omega))
      simp only [estreatref14_Great.l0]
      rw [if_neg (by omega)]
theorem great_f (l : List S34) : Ev (fun k => estreatref14_Great.f k l 100 100) (gB l 0) := great_l0 l 100 0 (by omega) (by omega)
/-! which values may be -/
def rightB (v : S34) (kind : Int) : Bool := if v.f0 = 0 then (v.f1 == 0 && v.f2.toList == []) else if v.f0 = kind then (if v.f0 = 1 then v.f2.toList == [] else if v.f0 = 2 then v.f1 == 0 else false) else false
theorem right_f (v : S34) (kind : Int) : chunk_right.f v.f0 v.f1 v.f2 kind = some (rightB v kind) := by
  unfold chunk_right.f rightB
  by_cases h0 : v.f0 = 0
  · simp [h0]
  · by_cases hk : v.f0 = kind
    · subst hk
      by_cases h1 : v.f0 = 1
      · by_cases hs : v.f2.toList = [] <;> simp [h1, hs]
      · by_cases h2 : v.f0 = 2 <;> simp [h0, h1, h2]
    · by_cases h1 : v.f0 = 1
      · have hk1 : ¬ (1 : Int) = kind := fun h => hk (h1.trans h)
        by_cases hs : v.f2.toList = [] <;> simp [h1, hk1, hs]
      · by_cases h2 : v.f0 = 2
        · have hk1 : ¬ (2 : Int) = kind := fun h => hk (h2.trans h)
          simp [h2, hk1]
        · simp [h0, h1, h2, hk]
theorem refright_f (v : S34) (kind : Int) : estreatref14_Right.f v.f0 v.f1 v.f2 kind = some (rightB v kind) := by
  unfold estreatref14_Right.f rightB
  by_cases h0 : v.f0 = 0
  · by_cases h1 : v.f1 = 0 <;> simp [h0, h1]
  · by_cases hk : v.f0 = kind
    · subst hk
      by_cases h1 : v.f0 = 1
      · by_cases hs : v.f2.toList = [] <;> simp [h1, hs]
      · by_cases h2 : v.f0 = 2 <;> simp [h0, h1, h2]
    · simp [h0, hk]
def checkOf (l : List S34) (kind : Int) : Int := if l.all (fun v => rightB v kind) then 0 else 11
theorem check_l1 (l : List S34) (kind : Int) (hl : l.length ≤ 100) : ∀ (n i : Nat), l.length = i + n → Ev (fun k => chunk_check.l1 k kind l (l.length : Int) i) (if (l.drop i).all (fun v => rightB v kind) then 0 else 11) := by
  intro n
  induction n with
  | zero =>
    intro i hi
    rw [List.drop_of_length_le (by omega)]
    refine Ev.step (f := fun _ => some 0) (fun k => ?_) (Ev.now _)
    simp only [chunk_check.l1]
    rw [if_neg (by omega)]
  | succ n ih =>
    intro i hi
    rw [List.drop_eq_getElem_cons (by omega), List.all_cons]
    cases hr : rightB l[i] kind
    · refine Ev.step (f := fun _ => some 11) (fun k => ?_) (Ev.now _)
      simp only [chunk_check.l1]
      rw [if_pos (by omega), if_pos (by omega), if_pos (by omega), rd34 (by omega), right_f, hr]
      rfl
    · refine Ev.step (fun k => ?_) (ih (i + 1) (by omega))
      simp only [chunk_check.l1]
      rw [if_pos (by omega), if_pos (by omega), if_pos (by omega), rd34 (by omega), right_f, hr, up (by omega)]
      rfl
theorem check_l0 (l : List S34) (kind : Int) (hl : l.length ≤ 100) (hs : ∀ v ∈ l, v.f2.size ≤ 100) : ∀ (n i : Nat), l.length = i + n → Ev (fun k => chunk_check.l0 k l kind l (l.length : Int) i) (checkOf l kind) := by
  intro n
  induction n with
  | zero =>
    intro i hi
    refine Ev.step (fun k => ?_) (check_l1 l kind hl l.length 0 (by omega))
    simp only [chunk_check.l0]
    rw [if_neg (by omega)]
    rfl
  | succ n ih =>
    intro i hi
    have := hs l[i] (List.getElem_mem _)
    refine Ev.step (fun k => ?_) (ih (i + 1) (by omega))
    simp only [chunk_check.l0]
    rw [if_pos (by omega), if_pos (by omega), if_pos (by omega), rd34 (by omega), if_neg (by omega), up (by omega)]
theorem check_f {l : List S34} (h : Fine l) (kind : Int) : Ev (fun k => chunk_check.f k l kind) (checkOf l kind) := by
  have hn := h.n
  refine Ev.congr (fun k => ?_) (check_l0 l kind h.n h.s l.length 0 (by omega))
  unfold chunk_check.f
  rw [if_neg (by omega)]
  rfl
theorem refcheck_l1 (l : List S34) (kind : Int) (hl : l.length ≤ 100) : ∀ (n i : Nat), l.length = i + n → Ev (fun k => estreatref14_Check.l1 k l kind i) (if (l.drop i).all (fun v => rightB v kind) then 0 else 11) := by
  intro n
  induction n with
  | zero =>
    intro i hi
    rw [List.drop_of_length_le (by omega)]
    refine Ev.step (f := fun _ => some 0) (fun k => ?_) (Ev.now _)
    simp only [estreatref14_Check.l1]
    rw [if_neg (by omega)]
  | succ n ih =>
    intro i hi
    rw [List.drop_eq_getElem_cons (by omega), List.all_cons]
    cases hr : rightB l[i] kind
    · refine Ev.step (f := fun _ => some 11) (fun k => ?_) (Ev.now _)
      simp only [estreatref14_Check.l1]
      rw [if_pos (by omega), if_pos (by omega), rd34 (by omega), refright_f, hr]
      rfl
    · refine Ev.step (fun k => ?_) (ih (i + 1) (by omega))
      simp only [estreatref14_Check.l1]
      rw [if_pos (by omega), if_pos (by omega), rd34 (by omega), refright_f, hr, up (by omega)]
      rfl
theorem refcheck_l0 (l : List S34) (kind : Int) (hl : l.length ≤ 100) (hs : ∀ v ∈ l, v.f2.size ≤ 100) : ∀ (n i : Nat), l.length = i + n → Ev (fun k => estreatref14_Check.l0 k l kind i) (checkOf l kind) := by
  intro n
  induction n with
  | zero =>
    intro i hi
    refine Ev.step (fun k => ?_) (refcheck_l1 l kind hl l.length 0 (by omega))
    simp only [estreatref14_Check.l0]
    rw [if_neg (by omega)]
    rfl
  | succ n ih =>
    intro i hi
    have := hs l[i] (List.getElem_mem _)
    refine Ev.step (fun k => ?_) (ih (i + 1) (by omega))
    simp only [estreatref14_Check.l0]
    rw [if_pos (by omega), if_pos (by omega), rd34 (by omega), if_neg (by omega), up (by omega)]
theorem refcheck_f {l : List S34} (h : Fine l) (kind : Int) : Ev (fun k => estreatref14_Check.f k l kind) (checkOf l kind) := by
  have hn := h.n
  refine Ev.congr (fun k => ?_) (refcheck_l0 l kind h.n h.s l.length 0 (by omega))
  unfold estreatref14_Check.f
  rw [if_neg (by omega)]
  rfl
/-! the document's chunk -/
theorem kinds_of {l : List S34} {kind : Int} (hk : kind = 1 ∨ kind = 2) (h : checkOf l kind = 0) : ∀ v ∈ l, v.f0 = 0 ∨ v.f0 = 1 ∨ v.f0 = 2 := by
  intro v hv
  have ha : l.all (fun v => rightB v kind) = true := by
    cases hb : l.all (fun v => rightB v kind)
    · unfold checkOf at h; rw [hb] at h; exact absurd h (by decide)
    · rfl
  have hr := List.all_eq_true.1 ha v hv
  unfold rightB at hr
  by_cases h0 : v.f0 = 0
  · exact .inl h0
  · by_cases h1 : v.f0 = kind
    · rcases hk with rfl | rfl
      · exact .inr (.inl h1)
      · exact .inr (.inr h1)
    · rw [if_neg h0, if_neg h1] at hr; cases hr
def someAt (l : List S34) (i : Nat) : Bool := (marksOf (l.take i)).any id
theorem someAt_succ {l : List S34} {i : Nat} (h : i < l.length) : someAt l (i + 1) = (someAt l i || l[i].f0 == 0) := by
  unfold someAt marksOf; rw [take_succ' l h, List.map_append, List.any_append]; simp only [List.map_cons, List.map_nil, List.any_cons, List.any_nil, Bool.or_false, id]
theorem marks_succ {l : List S34} {i : Nat} (h : i < l.length) : marksOf (l.take (i + 1)) = marksOf (l.take i) ++ [l[i].f0 == 0] := by
  unfold marksOf; rw [take_succ' l h, List.map_append]; rfl
theorem take_le' {l : List S34} (i : Nat) : (l.take i).length ≤ l.length := by rw [List.length_take]; omega
theorem reflay_l0 (l : List S34) (way : Int) (hl : l.length ≤ 100) (hk : ∀ v ∈ l, v.f0 = 0 ∨ v.f0 = 1 ∨ v.f0 = 2) (V : List Int)
    (H : Ev (fun k => estreatref14_lay.j2 k way (intsOf l) (wordsOf l) (frontOf l)) V) : ∀ (n i : Nat), l.length = i + n → Ev (fun k => estreatref14_lay.l0 k l way (marksOf (l.take i)) (intsOf (l.take i)) (wordsOf (l.take i)) (someAt l i) i) V := by
  intro n
  induction n with
  | zero =>
    intro i hi
    obtain rfl : i = l.length := by omega
    have hs : someAt l l.length = someNull l := by unfold someAt someNull; rw [List.take_length]
    rw [hs, List.take_length]
    have hm : (marksOf l).length ≤ 100 := by simp [marksOf]; omega
    cases hsn : someNull l
    · have hf : frontOf l = [0] := by unfold frontOf; rw [hsn]; rfl
      rw [hf] at H
      refine Ev.step (fun k => ?_) H
      simp only [estreatref14_lay.l0]
      rw [if_neg (by omega), if_neg (by decide)]
    · have hf : frontOf l = [1] ++ pack (marksOf l) := by unfold frontOf; rw [hsn]; rfl
      rw [hf] at H
      have hp := pack_len (marksOf l)
      refine Ev.step (f := fun k => (estreatref07_Bytes.f k (marksOf l)).bind fun t => if ([1] : List Int).length + t.length < 140737488355328 then estreatref14_lay.j2 k way (intsOf l) (wordsOf l) ([1] ++ t) else none) (fun k => ?_) ?_
      · simp only [estreatref14_lay.l0]
        rw [if_neg (by omega), if_pos trivial]
        rfl
      · refine Ev.bind (refBytes _ (by omega)) ?_
        refine Ev.congr (fun k => ?_) H
        rw [if_pos (by simp only [List.length_singleton]; omega)]
  | succ n ih =>
    intro i hi
    have hi' : i < l.length := by omega
    have hk' := hk l[i] (List.getElem_mem _)
    have hn := ih (i + 1) (by omega)
    have b0 : (marksOf (l.take i)).length ≤ 100 := by simp [marksOf]; omega
    have b1 := Nat.le_trans (ints_le (l.take i)) (take_le' i)
    have b2 := Nat.le_trans (words_le (l.take i)) (take_le' i)
    have hj : Ev (fun k => estreatref14_lay.j1 k l way (marksOf (l.take (i + 1))) (intsOf (l.take i)) (wordsOf (l.take i)) (someAt l (i + 1)) i) V := by
      refine Ev.step (fun k => ?_) hn
      simp only [estreatref14_lay.j1]
      rw [if_pos (by omega), if_pos (by omega), rd34 hi']
      rcases hk' with h0 | h0 | h0
      · rw [if_neg (by omega), if_neg (by omega), ints_no hi' (by omega), words_no hi' (.inl h0), up (by omega)]
      · rw [if_pos h0, if_pos (by omega), ints_yes hi' h0, words_no hi' (.inr h0), up (by omega)]
        show (if l[i].f0 = 2 then _ else _) = _
        rw [if_neg (by omega)]
      · rw [if_neg (by omega), if_pos h0, if_pos (by omega), ints_no hi' (by omega), words_yes hi' (by omega) (by omega), up (by omega)]
    refine Ev.step (fun k => ?_) hj
    simp only [estreatref14_lay.l0]
    rw [if_pos (by omega), if_pos (by omega), if_pos (by omega), rd34 hi', marks_succ hi', someAt_succ hi']
    show (if someAt l i = true then _ else _) = _
    cases someAt l i
    · rw [if_neg (by decide)]; rfl
    · rw [if_pos rfl]; rfl
theorem fin_ev {f : Nat → Option (List Int)} {y P : List Int} (h : Ev f P) (hl : y.length + P.length < 140737488355328) : Ev (fun k => (f k).bind fun t => if y.length + t.length < 140737488355328 then some (y ++ t) else none) (y ++ P) := by
  refine Ev.bind h ?_
  refine Ev.congr (fun k => ?_) (Ev.now _)
  rw [if_pos hl]
theorem reflay_j2 {l : List S34} (h : Fine l) (way : Nat) (hw : way ≤ 5) : Ev (fun k => estreatref14_lay.j2 k way (intsOf l) (wordsOf l) (frontOf l)) (layOf l way) := by
  obtain ⟨h1, h2⟩ := h.ints
  obtain ⟨h3, h4⟩ := h.words
  have hf := front_len l
  have hn := h.n
  have hP := way_len h way
  have hlen : (frontOf l ++ [(way : Int)]).length + (wayOf l way).length < 140737488355328 := by simp; omega
  have hm : ((way : Int)) % 256 = way := by omega
  have go : ∀ f : Nat → Option (List Int), Ev f (wayOf l way) → (∀ k, estreatref14_lay.j2 (k + 1) way (intsOf l) (wordsOf l) (frontOf l) = (f k).bind fun t => if (frontOf l ++ [(way : Int)]).length + t.length < 140737488355328 then some ((frontOf l ++ [(way : Int)]) ++ t) else none) → Ev (fun k => estreatref14_lay.j2 k way (intsOf l) (wordsOf l) (frontOf l)) (layOf l way) := fun f hF he => Ev.step he (fin_ev hF hlen)
  have hw1 : (frontOf l).length < 140737488355328 := by omega
  match way, hw with
  | 0, _ => exact go (fun k => estreatref08_Put.f k (intsOf l)) ⟨(intsOf l).length + 11, fun k hk => Pure.refplain_f (intsOf l) (by omega) h2 (by omega)⟩ (fun k => by simp only [estreatref14_lay.j2]; rw [if_pos hw1]; rfl)
  | 1, _ => exact go (fun k => estreatref09_Put.f k (intsOf l)) (Pure.refrunsput_f (intsOf l) (by omega) h2) (fun k => by simp only [estreatref14_lay.j2]; rw [if_pos hw1]; rfl)
  | 2, _ => exact go (fun k => estreatref10_Put.f k (intsOf l)) (Pure.refdelta_f (intsOf l) (by omega) h2) (fun k => by simp only [estreatref14_lay.j2]; rw [if_pos hw1]; rfl)
  | 3, _ => exact go (fun k => estreatref11_Put.f k (intsOf l)) (Pure.refdict_f (intsOf l) (by omega) h2) (fun k => by simp only [estreatref14_lay.j2]; rw [if_pos hw1]; rfl)
  | 4, _ => exact go (fun k => estreatref12_Put.f k (intsOf l)) (Pure.reffore_f (intsOf l) (by omega) h2) (fun k => by simp only [estreatref14_lay.j2]; rw [if_pos hw1]; rfl)
  | 5, _ => exact go (fun k => estreatref13_Put.f k (wordsOf l)) (Pure.reftext_f (wordsOf l) (by omega) (fun s hs => Nat.le_trans (h4 s hs) (by decide))) (fun k => by simp only [estreatref14_lay.j2]; rw [if_pos hw1]; rfl)
theorem reflay_f {l : List S34} (h : Fine l) (hk : ∀ v ∈ l, v.f0 = 0 ∨ v.f0 = 1 ∨ v.f0 = 2) (way : Int) (h0 : 0 ≤ way) (hw : way ≤ 5) : Ev (fun k => estreatref14_lay.f k l way) (layOf l way.toNat) := by
  obtain ⟨n, rfl⟩ := Int.eq_ofNat_of_zero_le h0
  exact reflay_l0 l n h.n hk _ (reflay_j2 h n (by omega)) l.length 0 (by omega)
theorem lay_f {l : List S34} (h : Fine l) (way : Int) (h0 : 0 ≤ way) (hw : way ≤ 5) : chunk_lay.f l way = some (layOf l way.toNat) := by
  unfold chunk_lay.f
  rw [if_pos ⟨h.n, h.s, h.i, h0, hw⟩]
end Go.Proofs.YtefcchpjbojdkaaGreatDoor.Ch
namespace Go.Proofs.YtefcchpjbojdkaaGreatDoor.Ch
open Go.RowKit Go.Proofs.YtefcchpjbojdkaaGreatDoorW.PrintWords Go.Proofs.YtefcchpjbojdkaaGreatDoorW.PrintLast Go.Proofs.YtefcchpjbojdkaaGreatDoorW.PrintMore Go.Proofs.YtefcchpjbojdkaaGreatDoor.PChunkPuts Go.Proofs.YtefcchpjbojdkaaGreatDoor.Bits
set_option linter.unusedVariables false
set_option linter.unusedSimpArgs false
def ofB (way kind : Int) : Bool := decide (kind = 1 ∧ 0 ≤ way ∧ way ≤ 4 ∨ kind = 2 ∧ way = 5)
theorem of_f {way kind : Int} (hk : kind = 1 ∨ kind = 2) : chunk_of.f way kind = some (ofB way kind) := by
  unfold chunk_of.f ofB
  rcases hk with rfl | rfl
  · by_cases h0 : way ≥ 0 <;> by_cases h4 : way ≤ 4 <;> simp [h0, h4]
  · by_cases h5 : way = 5 <;> simp [h5]
theorem refof_f {way kind : Int} (hk : kind = 1 ∨ kind = 2) : estreatref14_Of.f way kind = some (ofB way kind) := by
  unfold estreatref14_Of.f ofB
  rcases hk with rfl | rfl
  · by_cases h0 : way ≥ 0 <;> by_cases h4 : way ≤ 4 <;> simp [h0, h4]
  · by_cases h5 : way = 5 <;> simp [h5]
def lenOf (l : List S34) (way : Int) : Int := ((layOf l way.toNat).length : Int)
/-- What holds of the best way so far, and its size, ahead of way i. -/
def Inv (l : List S34) (kind : Int) (i : Nat) (b s : Int) : Prop := b = -1 ∧ (kind = 1 → i = 0) ∧ (kind = 2 → i ≤ 5) ∨ (0 ≤ b ∧ b ≤ 5) ∧ ofB b kind = true ∧ s = lenOf l b
theorem best_l0 {l : List S34} (h : Fine l) {kind : Int} (hk : kind = 1 ∨ kind = 2) (hks : ∀ v ∈ l, v.f0 = 0 ∨ v.f0 = 1 ∨ v.f0 = 2) : ∀ (n i : Nat) (b s : Int), 6 = i + n → Inv l kind i b s →
    ∃ r, (0 ≤ r ∧ r ≤ 5) ∧ Ev (fun k => chunk_Best.l0 k l kind b s i) r ∧ Ev (fun k => estreatref14_Best.l0 k l kind b i) r := by
  intro n
  induction n with
  | zero =>
    intro i b s hi hI
    obtain rfl : i = 6 := by omega
    rcases hI with ⟨_, h1, h2⟩ | ⟨hb, _, _⟩
    · rcases hk with rfl | rfl
      · have := h1 rfl; omega
      · have := h2 rfl; omega
    · refine ⟨b, hb, Ev.step (f := fun _ => some b) (fun k => ?_) (Ev.now _), Ev.step (f := fun _ => some b) (fun k => ?_) (Ev.now _)⟩
      · simp only [chunk_Best.l0]; rw [if_neg (by omega)]
      · simp only [estreatref14_Best.l0]; rw [if_neg (by omega)]
  | succ n ih =>
    intro i b s hi hI
    have hl1 := lay_f h (i : Int) (by omega) (by omega)
    have hl2 := reflay_f h hks (i : Int) (by omega) (by omega)
    cases ho : ofB (i : Int) kind
    · obtain ⟨r, hr, e1, e2⟩ := ih (i + 1) b s (by omega) (by
        rcases hI with ⟨h0, h1, h2⟩ | hI
        · refine .inl ⟨h0, fun h => ?_, fun h => ?_⟩
          · have := h1 h; subst this; subst h; exact absurd ho (by decide)
          · have := h2 h
            by_cases h5 : i = 5
            · subst h5; subst h; exact absurd ho (by decide)
            · omega
        · exact .inr hI)
      refine ⟨r, hr, Ev.step (fun k => ?_) e1, Ev.step (fun k => ?_) e2⟩
      · simp only [chunk_Best.l0]; rw [if_pos (by omega), of_f hk, ho, up (by omega)]; rfl
      · simp only [estreatref14_Best.l0]; rw [if_pos (by omega), refof_f hk, ho, up (by omega)]; rfl
    · have new : Inv l kind (i + 1) (i : Int) (lenOf l i) := .inr ⟨⟨by omega, by omega⟩, ho, rfl⟩
      rcases hI with ⟨h0, h1, h2⟩ | ⟨hb, hbo, hs⟩
      · obtain ⟨r, hr, e1, e2⟩ := ih (i + 1) i (lenOf l i) (by omega) new
        subst h0
        refine ⟨r, hr, Ev.step (fun k => ?_) e1, Ev.step (fun k => ?_) e2⟩
        · simp only [chunk_Best.l0]; rw [if_pos (by omega), of_f hk, ho, hl1, up (by omega)]; rfl
        · simp only [estreatref14_Best.l0]; rw [if_pos (by omega), refof_f hk, ho, up (by omega)]; rfl
      · have hl3 := reflay_f h hks b hb.1 hb.2
        by_cases hlt : lenOf l i < lenOf l b
        · obtain ⟨r, hr, e1, e2⟩ := ih (i + 1) i (lenOf l i) (by omega) new
          refine ⟨r, hr, Ev.step (fun k => ?_) e1, Ev.step (f := fun k => (estreatref14_lay.f k l i).bind fun t => (estreatref14_lay.f k l b).bind fun u => if (t.length : Int) < (u.length : Int) then estreatref14_Best.l0 k l kind i ((i + 1 : Nat) : Int) else estreatref14_Best.l0 k l kind b ((i + 1 : Nat) : Int)) (fun k => ?_) (Ev.bind hl2 (Ev.bind hl3 (Ev.congr (fun k => ?_) e2)))⟩
          · simp only [chunk_Best.l0]; rw [if_pos (by omega), of_f hk, ho, hl1, up (by omega)]
            show (if b = -1 then _ else if lenOf l i < s then _ else _) = _
            rw [if_neg (by omega), hs, if_pos hlt]; rfl
          · simp only [estreatref14_Best.l0]; rw [if_pos (by omega), refof_f hk, ho, up (by omega)]
            show (if b < 0 then _ else _) = _
            rw [if_neg (by omega)]
          · exact if_pos hlt
        · obtain ⟨r, hr, e1, e2⟩ := ih (i + 1) b s (by omega) (.inr ⟨hb, hbo, hs⟩)
          refine ⟨r, hr, Ev.step (fun k => ?_) e1, Ev.step (f := fun k => (estreatref14_lay.f k l i).bind fun t => (estreatref14_lay.f k l b).bind fun u => if (t.length : Int) < (u.length : Int) then estreatref14_Best.l0 k l kind i ((i + 1 : Nat) : Int) else estreatref14_Best.l0 k l kind b ((i + 1 : Nat) : Int)) (fun k => ?_) (Ev.bind hl2 (Ev.bind hl3 (Ev.congr (fun k => ?_) e2)))⟩
          · simp only [chunk_Best.l0]; rw [if_pos (by omega), of_f hk, ho, hl1, up (by omega)]
            show (if b = -1 then _ else if lenOf l i < s then _ else _) = _
            rw [if_neg (by omega), hs, if_neg hlt]
          · simp only [estreatref14_Best.l0]; rw [if_pos (by omega), refof_f hk, ho, up (by omega)]
            show (if b < 0 then _ else _) = _
            rw [if_neg (by omega)]
          · exact if_neg hlt
theorem kind_f (kind : Int) : chunk_isKind.f kind = some (decide (kind = 1 ∨ kind = 2)) := by
  unfold chunk_isKind.f
  by_cases h1 : kind = 1
  · simp [h1]
  · by_cases h2 : kind = 2 <;> simp [h1, h2]
/-- Both halves' best way is one. -/
theorem best_f {l : List S34} (h : Fine l) (kind : Int) : ∃ r, Ev (fun k => chunk_Best.f k l kind) r ∧ Ev (fun k => estreatref14_Best.f k l kind) r ∧ ((kind = 1 ∨ kind = 2) → checkOf l kind = 0 → 0 ≤ r ∧ r ≤ 5) := by
  by_cases hk : kind = 1 ∨ kind = 2
  · have hc1 := check_f h kind
    have hc2 := refcheck_f h kind
    have hb2 : ∀ r, Ev (fun k => estreatref14_Best.j0 k l kind (checkOf l kind != 0)) r → Ev (fun k => estreatref14_Best.f k l kind) r := by
      intro r hr
      unfold estreatref14_Best.f
      rcases hk with rfl | rfl
      · simp only [if_pos]; exact Ev.bind hc2 hr
      · have : ¬ (2 : Int) = 1 := by decide
        simp only [if_neg this, if_pos]; exact Ev.bind hc2 hr
    have hb1 : ∀ r, Ev (fun k => chunk_Best.j0 k l kind (checkOf l kind != 0)) r → Ev (fun k => chunk_Best.f k l kind) r := by
      intro r hr
      unfold chunk_Best.f
      rw [kind_f, decide_eq_true hk]
      exact Ev.bind (Ev.now true) (Ev.bind hc1 hr)
    by_cases hc : checkOf l kind = 0
    · obtain ⟨r, hr, e1, e2⟩ := best_l0 h hk (kinds_of hk hc) 6 0 (-1) 0 (by omega) (.inl ⟨rfl, fun _ => rfl, fun _ => by omega⟩)
      refine ⟨r, hb1 r (Ev.step (fun k => ?_) e1), hb2 r (Ev.step (fun k => ?_) e2), fun _ _ => hr⟩
      · simp only [chunk_Best.j0]; rw [hc]; rfl
      · simp only [estreatref14_Best.j0]; rw [hc]; rfl
    · have hne : (checkOf l kind != 0) = true := bne_iff_ne.2 hc
      refine ⟨-1, hb1 _ (Ev.step (f := fun _ => some (-1)) (fun k => ?_) (Ev.now _)), hb2 _ (Ev.step (f := fun _ => some (-1)) (fun k => ?_) (Ev.now _)), fun _ h => absurd h hc⟩
      · simp only [chunk_Best.j0]; rw [hne]; rfl
      · simp only [estreatref14_Best.j0]; rw [hne]; rfl
  · refine ⟨-1, ?_, ?_, fun h => absurd h hk⟩
    · unfold chunk_Best.f
      rw [kind_f, decide_eq_false hk]
      refine Ev.bind (Ev.now false) (Ev.step (f := fun _ => some (-1)) (fun k => ?_) (Ev.now _))
      simp only [chunk_Best.j0]; rfl
    · unfold estreatref14_Best.f
      rw [not_or] at hk
      simp only [if_neg hk.1, if_neg hk.2]
      refine Ev.step (f := fun _ => some (-1)) (fun k => ?_) (Ev.now _)
      simp only [estreatref14_Best.j0]; rfl
theorem of_way {way kind : Int} (h : ofB way kind = true) : 0 ≤ way ∧ way ≤ 5 := by
  have := of_decide_eq_true h; omega
/-- Both halves put one thing. -/
theorem put_f {l : List S34} (h : Fine l) (kind way : Int) : ∃ r, Ev (fun k => chunk_Put.f k l kind way) r ∧ Ev (fun k => estreatref14_Put.f k l kind way) r ∧ r.1.length ≤ 9000000 ∧ (kind = 1 → way = 0 → checkOf l kind = 0 → r = (layOf l 0, 0)) := by
  have hlen : ∀ w : Int, (layOf l w.toNat).length ≤ 9000000 := by
    intro w
    have h1 := front_len l
    have h2 := way_len h w.toNat
    have h3 := h.n
    unfold layOf
    simp only [List.length_append, List.length_singleton]
    omega
  by_cases hk : kind = 1 ∨ kind = 2
  · have hc1 := check_f h kind
    have hc2 := refcheck_f h kind
    have bad : ∀ r : List Int × Int, (∀ k, chunk_Put.j0 (k + 1) l kind way true = some ([], 1)) ∧ (∀ k, estreatref14_Put.j0 (k + 1) l kind way true = some ([], 1)) := fun r => ⟨fun k => by simp only [chunk_Put.j0]; rfl, fun k => by simp only [estreatref14_Put.j0]; rfl⟩
    have hp1 : ∀ r b, (if way = -1 then b = false else b = !(ofB way kind)) → Ev (fun k => chunk_Put.j0 k l kind way b) r → Ev (fun k => chunk_Put.f k l kind way) r := by
      intro r b hb hr
      unfold chunk_Put.f
      rw [kind_f, decide_eq_true hk]
      refine Ev.bind (Ev.now true) ?_
      by_cases hw : way = -1
      · rw [if_pos hw] at hb
        subst hb
        simp only [if_pos hw, if_pos]; exact hr
      · rw [if_neg hw] at hb
        subst hb
        simp only [if_neg hw, if_pos]; rw [of_f hk]; exact Ev.bind (Ev.now _) hr
    have hp2 : ∀ r b, (if way = -1 then b = false else b = !(ofB way kind)) → Ev (fun k => estreatref14_Put.j0 k l kind way b) r → Ev (fun k => estreatref14_Put.f k l kind way) r := by
      intro r b hb hr
      have hoo : Ev (fun k => (if way = -1 then estreatref14_Put.j0 k l kind way false else (estreatref14_Of.f way kind).bind fun t => estreatref14_Put.j0 k l kind way (!t))) r := by
        by_cases hw : way = -1
        · rw [if_pos hw] at hb
          subst hb
          simp only [if_pos hw]; exact hr
        · rw [if_neg hw] at hb
          subst hb
          simp only [if_neg hw]; rw [refof_f hk]; exact Ev.bind (Ev.now _) hr
      unfold estreatref14_Put.f
      rcases hk with rfl | rfl
      · simp only [if_pos]; exact hoo
      · have : ¬ (2 : Int) = 1 := by decide
        simp only [if_neg this, if_pos]; exact hoo
    have fin : ∀ b, (if way = -1 then b = false else b = !(ofB way kind)) → b = false → ∃ r, Ev (fun k => chunk_Put.f k l kind way) r ∧ Ev (fun k => estreatref14_Put.f k l kind way) r ∧ r.1.length ≤ 9000000 ∧ (kind = 1 → way = 0 → checkOf l kind = 0 → r = (layOf l 0, 0)) := by
      intro b hb hbf
      subst hbf
      by_cases hc : checkOf l kind = 0
      · rw [hc] at hc1 hc2
        obtain ⟨r, b1, b2, hr⟩ := best_f h kind
        have hr := hr hk hc
        have hks := kinds_of hk hc
        by_cases hw : way = -1
        · refine ⟨(layOf l r.toNat, 0), hp1 _ false (by rw [if_pos hw]) (Ev.step (f := fun k => (chunk_check.f k l kind).bind fun t => if t = 0 then (chunk_Best.f k l kind).bind fun u => (chunk_lay.f l u).bind fun v => some (v, 0) else some ([], t)) (fun k => ?_) (Ev.bind hc1 (Ev.bind b1 ?_))), hp2 _ false (by rw [if_pos hw]) (Ev.step (f := fun k => (estreatref14_Check.f k l kind).bind fun t => if t = 0 then (estreatref14_Best.f k l kind).bind fun u => (estreatref14_lay.f k l u).bind fun v => some (v, 0) else some ([], t)) (fun k => ?_) (Ev.bind hc2 (Ev.bind b2 (Ev.bind (reflay_f h hks r hr.1 hr.2) (Ev.now _))))), hlen r, fun _ h0 _ => by omega⟩
          · simp only [chunk_Put.j0, if_pos hw]; rfl
          · rw [lay_f h r hr.1 hr.2]; exact Ev.now _
          · simp only [estreatref14_Put.j0, if_pos hw]; rfl
        · have ho : ofB way kind = true := by
            rw [if_neg hw] at hb
            cases hx : ofB way kind
            · rw [hx] at hb; cases hb
            · rfl
          have hwy := of_way ho
          refine ⟨(layOf l way.toNat, 0), hp1 _ false hb (Ev.step (f := fun k => (chunk_check.f k l kind).bind fun t => if t = 0 then (chunk_lay.f l way).bind fun v => some (v, 0) else some ([], t)) (fun k => ?_) (Ev.bind hc1 ?_)), hp2 _ false hb (Ev.step (f := fun k => (estreatref14_Check.f k l kind).bind fun t => if t = 0 then (estreatref14_lay.f k l way).bind fun v => some (v, 0) else some ([], t)) (fun k => ?_) (Ev.bind hc2 (Ev.bind (reflay_f h hks way hwy.1 hwy.2) (Ev.now _)))), hlen way, fun _ h0 _ => by rw [h0]; rfl⟩
          · simp only [chunk_Put.j0, if_neg hw]; rfl
          · rw [lay_f h way hwy.1 hwy.2]; exact Ev.now _
          · simp only [estreatref14_Put.j0, if_neg hw]; rfl
      · refine ⟨([], checkOf l kind), hp1 _ false hb (Ev.step (f := fun k => (chunk_check.f k l kind).bind fun t => if t = 0 then (if way = -1 then (chunk_Best.f k l kind).bind fun u => (chunk_lay.f l u).bind fun v => some (v, 0) else (chunk_lay.f l way).bind fun v => some (v, 0)) else some ([], t)) (fun k => ?_) (Ev.bind hc1 ?_)), hp2 _ false hb (Ev.step (f := fun k => (estreatref14_Check.f k l kind).bind fun t => if t = 0 then (if way = -1 then (estreatref14_Best.f k l kind).bind fun u => (estreatref14_lay.f k l u).bind fun v => some (v, 0) else (estreatref14_lay.f k l way).bind fun v => some (v, 0)) else some ([], t)) (fun k => ?_) (Ev.bind hc2 ?_)), by simp, fun _ _ h0 => absurd h0 hc⟩
        · simp only [chunk_Put.j0]; rfl
        · simp only [if_neg hc]; exact Ev.now _
        · simp only [estreatref14_Put.j0]; rfl
        · simp only [if_neg hc]; exact Ev.now _
    by_cases hw : way = -1
    · exact fin false (by rw [if_pos hw]) rfl
    · cases ho : ofB way kind
      · refine ⟨([], 1), hp1 _ true (by rw [if_neg hw, ho]; rfl) (Ev.step (f := fun _ => some ([], 1)) (bad ([], 1)).1 (Ev.now _)), hp2 _ true (by rw [if_neg hw, ho]; rfl) (Ev.step (f := fun _ => some ([], 1)) (bad ([], 1)).2 (Ev.now _)), by simp, fun h1 h0 _ => ?_⟩
        subst h1; subst h0; exact absurd ho (by decide)
      · exact fin false (by rw [if_neg hw, ho]; rfl) rfl
  · refine ⟨([], 1), ?_, ?_, by simp, fun h => absurd (.inl h) hk⟩
    · unfold chunk_Put.f
      rw [kind_f, decide_eq_false hk]
      refine Ev.bind (Ev.now false) (Ev.step (f := fun _ => some ([], 1)) (fun k => ?_) (Ev.now _))
      simp only [chunk_Put.j0]; rfl
    · unfold estreatref14_Put.f
      rw [not_or] at hk
      simp only [if_neg hk.1, if_neg hk.2]
      refine Ev.step (f := fun _ => some ([], 1)) (fun k => ?_) (Ev.now _)
      simp only [estreatref14_Put.j0]; rfl
theorem same_ev (a b : List Int) (h : a.length ≤ 9000000) : Ev (fun k => estreatref01_Same.f k a b) (decide (a = b)) := ⟨a.length + 1, fun k hk => Pure.same_f a b (by omega) k (by omega)⟩
def awl : List S34 := [(⟨0, 0, (⟨#[]⟩ : ByteArray)⟩ : S34), (⟨1, 3, (⟨#[]⟩ : ByteArray)⟩ : S34)]
theorem aw_fine : Fine awl := ⟨by decide, by decide, by decide⟩
theorem empty_list : (⟨#[]⟩ : ByteArray).toList = [] := by unfold ByteArray.toList ByteArray.toList.loop; rfl
theorem aw_check : checkOf awl 1 = 0 := by
  unfold checkOf awl
  simp [rightB, empty_list]
theorem aw_lay : layOf awl 0 = [1, 1, 0, 6] := by
  have h1 : frontOf awl = [1, 1] := by decide
  have h2 : wayOf awl 0 = [6] := by
    show Pure.plainOf [3] = [6]
    simp [Pure.plainOf, leb_small, zz]
  unfold layOf
  rw [h1, h2]
  rfl
theorem awake_ev : Ev (fun k => estreatlaw14_awake.f k) true := by
  obtain ⟨r, h1, _, _, hr⟩ := put_f aw_fine 1 0
  have hr := hr rfl rfl aw_check
  subst hr
  rw [aw_lay] at h1
  unfold estreatlaw14_awake.f
  refine Ev.bind h1 ?_
  refine Ev.bind (same_ev _ _ (by decide)) ?_
  exact Ev.now _
theorem law_ev (l : List S34) (hi : ∀ v ∈ l, -9223372036854775808 ≤ v.f1 ∧ v.f1 ≤ 9223372036854775807) (kind way : Int) : Ev (fun k => estreatlaw14_ChunkPuts.f k l kind way) true := by
  unfold estreatlaw14_ChunkPuts.f
  refine Ev.bind (great_f l) ?_
  cases hg : gB l 0
  · have hg2 : l.length ≤ 100 ∧ ∀ v ∈ (l.take 100).drop 0, v.f2.size ≤ 100 := by
      unfold gB at hg
      exact of_decide_eq_true (by simpa using hg)
    rw [List.drop_zero, List.take_of_length_le hg2.1] at hg2
    have hf : Fine l := ⟨hg2.1, hg2.2, hi⟩
    obtain ⟨r, p1, p2, hrl, _⟩ := put_f hf kind way
    obtain ⟨b, b1, b2, _⟩ := best_f hf kind
    simp only [if_neg (show ¬ (false = true) by decide)]
    refine Ev.bind p1 (Ev.bind p2 ?_)
    refine Ev.bind (same_ev _ _ hrl) ?_
    rw [decide_eq_true rfl]
    simp only [if_pos]
    refine Ev.bind b1 (Ev.bind b2 ?_)
    simp only [if_pos]
    exact Ev.bind awake_ev (Ev.now _)
  · simp only [if_pos]
    exact Ev.bind awake_ev (Ev.now _)
end Go.Proofs.YtefcchpjbojdkaaGreatDoor.Ch
namespace Go.Proofs.YtefcchpjbojdkaaGreatDoor.Slf
open Go.ChangeShapes Go.WideShapes Go.Deep
section
variable {H : Type} {enc : TypeId × Value → H} {P : Program} {w : World} {base : Nat} {spare : Nat → Bool} {held : Bool}
theorem open_slice_fields {t e : TypeId} {fs : Array Field} {fuel : Nat} {cs : List Value} {x : DataW H × List MemPlace} (ht : P.underlying t = some (.slice e)) (he : P.underlying e = some (.struct fs))
    (hone : oneCellFields P fs = true) (hC : P.cellsOf e = fs.size) (h : DataW.trod enc P w base spare held fuel t cs = some x) :
    (cs = [.slice none 0 0] ∧ x = (.nil, [])) ∨
    ∃ (a : Addr) (len cap m : Nat) (D : Nat → DataW H) (Pl : Nat → List MemPlace), cs = [.slice (some a) len cap] ∧ base ≤ a.block ∧ len ≤ cap ∧ cap ≤ maxLen ∧ m = (if spare a.block then cap else len) ∧
      x = (.slice ((List.range len).map D) ((List.range (m - len)).map fun j => D (len + j)), MemPlace.row a (m * fs.size) ++ (List.range m).flatMap Pl) ∧
      ∀ i, i < m → ∃ (ys : List (DataW H × List MemPlace)) (n : Nat), D i = .agg (ys.map (·.1)) ∧ Pl i = ys.flatMap (·.2) ∧ ys.length = fs.size ∧
        ∀ (j : Nat) (f : Field), fs[j]? = some f → ∃ (v : Value) (y : DataW H × List MemPlace), w.cell? (a.add (i * fs.size + j)) = some v ∧ ys[j]? = some y ∧ DataW.trod enc P w base spare held n f.type [v] = some y := by
  rcases open_slice ht h with h0 | ⟨a, len, cap, m, n, D, Pl, hcs, hb, hl, hm, hmm, hx, hi⟩
  · exact .inl h0
  · refine .inr ⟨a, len, cap, m, D, Pl, hcs, hb, hl, hm, hmm, by rw [hC] at hx; exact hx, fun i him => ?_⟩
    obtain ⟨cs', hc, ht'⟩ := hi i him
    rw [hC] at hc
    obtain ⟨ys, n', hn', hy, hlen, hyl, hf⟩ := DataW.trod_struct he ht'
    obtain ⟨_, hcl, hat⟩ := World.cells?_some hc
    simp only [Prod.mk.injEq] at hy
    refine ⟨ys, n', hy.1, hy.2, hyl, fun j f hj => ?_⟩
    obtain ⟨ho, hk⟩ := hone_of hone j f hj
    have hjl : j < fs.size := (Array.getElem?_eq_some_iff.1 hj).1
    have hcell := hat j hjl
    have hv : cs'[j]? = some (cs'[j]'(by omega)) := List.getElem?_eq_getElem (by omega)
    have h1 := hf j f hj
    rw [ho, hk] at h1
    have hone' : (cs'.drop j).take 1 = [cs'[j]'(by omega)] := by
      rw [List.drop_eq_getElem_cons (by omega)]
      rfl
    rw [hone'] at h1
    have hys : ys[j]? = some (ys[j]'(by omega)) := List.getElem?_eq_getElem (by omega)
    refine ⟨_, _, ?_, hys, h1.trans hys⟩
    rw [← Go.Deep.add_add, hcell, hv]
end
end Go.Proofs.YtefcchpjbojdkaaGreatDoor.Slf
namespace Go.Proofs.YtefcchpjbojdkaaGreatDoor.Ch
open Go.RowKit Go.ChangeShapes Go.WideShapes Go.Deep Go.Proofs.YtefcchpjbojdkaaGreatDoorW.PrintWords Go.Proofs.YtefcchpjbojdkaaGreatDoorW.PrintLast Go.Proofs.YtefcchpjbojdkaaGreatDoorW.PrintMore Go.Proofs.YtefcchpjbojdkaaGreatDoor.PChunkPuts
set_option linter.unusedVariables false
set_option linter.unusedSimpArgs false
theorem pick_list {α : Type} {n : Nat} {P : Nat → α → Prop} (h : ∀ i, i < n → ∃ x, P i x) : ∃ l : List α, l.length = n ∧ ∀ i (hi : i < l.length), P i l[i] := by
  induction n with
  | zero => exact ⟨[], rfl, fun i hi => absurd hi (by simp)⟩
  | succ n ih =>
    obtain ⟨l, hl, hP⟩ := ih (fun i hi => h i (by omega))
    obtain ⟨x, hx⟩ := h n (by omega)
    refine ⟨l ++ [x], by simp [hl], fun i hi => ?_⟩
    by_cases e : i < l.length
    · rw [List.getElem_append_left e]; exact hP i e
    · have e2 : i = n := by simp at hi; omega
      subst e2
      rw [List.getElem_append_right (by omega)]
      simpa [hl] using hx
theorem b64 {x : Int} (h : (Lit.int .i64 x).wf = true) : -9223372036854775808 ≤ x ∧ x ≤ 9223372036854775807 := by
  simp [Lit.wf, IntKind.min, IntKind.max, IntKind.signed, IntKind.bits] at h; omega
section
variable {H : Type} {enc : TypeId × Value → H} {W : World}
theorem open34 {a : Option Addr} {len cap : Nat} {d : DataW H} {p : List MemPlace} (h : DataW.Trod enc Tryz.prog W 0 (fun _ => true) true 22 (.slice a len cap) d p) : ∃ l : List S34, l.length = len ∧ (Kd.C k34 W a l.length l ∧ l.length ≤ cap ∧ ∀ v ∈ l, -9223372036854775808 ≤ v.f1 ∧ v.f1 ≤ 9223372036854775807) := by
  obtain ⟨fuel, hf⟩ := h
  rcases Slf.open_slice_fields Tryz.underlying22 Tryz.underlying34 (by kernel_rfl) (by kernel_rfl) hf with ⟨hcs, _⟩ | ⟨ad, len', cap', m, D, Pl, hcs, _, hl, hm, hmm, _, hi⟩
  · simp [Value.cells] at hcs
    obtain ⟨rfl, rfl, rfl⟩ := hcs
    exact ⟨[], rfl, ⟨rfl, by decide, fun h => absurd h (by decide)⟩, Nat.zero_le _, fun v hv => absurd hv (by simp)⟩
  · simp [Value.cells] at hcs
    obtain ⟨rfl, rfl, rfl⟩ := hcs
    have hex : ∀ i, i < len → ∃ x : S34, (∀ j u, ([.int .i64 x.f0, .int .i64 x.f1, .string x.f2] : List Value)[j]? = some u → W.cell? (ad.add (i * 3 + j)) = some u) ∧ (-9223372036854775808 ≤ x.f1 ∧ x.f1 ≤ 9223372036854775807) := by
      intro i hi2
      have him : i < m := by rw [hmm]; split <;> omega
      obtain ⟨ys, n, _, _, _, hf2⟩ := hi i him
      obtain ⟨u0, y0, hc0, _, ht0⟩ := hf2 0 _ rfl
      obtain ⟨u1, y1, hc1, _, ht1⟩ := hf2 1 _ rfl
      obtain ⟨u2, y2, hc2, _, ht2⟩ := hf2 2 _ rfl
      obtain ⟨x0, e0, _, wx0⟩ := DataW.trod_int Tryz.underlying3 ht0
      obtain ⟨x1, e1, _, wx1⟩ := DataW.trod_int Tryz.underlying2 ht1
      obtain ⟨s2, e2, _, ws2⟩ := DataW.trod_string Tryz.underlying9 ht2
      simp at e0 e1 e2
      subst e0 e1 e2
      refine ⟨⟨x0, x1, s2⟩, fun j u hj => ?_, b64 wx1⟩
      match j, hj with
      | 0, hj => injection hj with hj; subst hj; exact hc0
      | 1, hj => injection hj with hj; subst hj; exact hc1
      | 2, hj => injection hj with hj; subst hj; exact hc2
      | j + 3, hj => cases hj
    obtain ⟨l, hl2, hP⟩ := pick_list hex
    refine ⟨l, hl2, ⟨rfl, by have : maxLen ≤ 9223372036854775807 := by decide
                             omega, fun _ => ⟨ad, rfl, fun j p hp => ?_⟩⟩, by omega, fun v hv => ?_⟩
    · obtain ⟨hj, rfl⟩ := List.getElem?_eq_some_iff.1 hp
      exact ⟨[.int .i64 l[j].f0, .int .i64 l[j].f1, .string l[j].f2], rfl, k34_mk _ _, (hP j hj).1⟩
    · obtain ⟨j, hj, rfl⟩ := List.getElem_of_mem hv
      exact (hP j hj).2
end
theorem chunkPuts_any (A : Option Addr) (l : List S34) (c : Nat) (kind way : Int) (w : World) (hr : Kd.C k34 w A l.length l ∧ l.length ≤ c ∧ ∀ v ∈ l, -9223372036854775808 ≤ v.f1 ∧ v.f1 ≤ 9223372036854775807) (_ : (Lit.int .i64 kind).wf = true) (_ : (Lit.int .i64 way).wf = true) :
    Calls Tryz.prog 3 #[.slice A l.length c, .int .i64 kind, .int .i64 way] w fun e w' => e = .returned (.bool true) ∧ Below w.heap.size w w' := by
  obtain ⟨k, hk⟩ := (law_ev l hr.2.2 kind way).rounds
  exact estreatlaw14_ChunkPuts.calls k A c l kind way true w hr.1 hr.2.1 hk rfl
end Go.Proofs.YtefcchpjbojdkaaGreatDoor.Ch
