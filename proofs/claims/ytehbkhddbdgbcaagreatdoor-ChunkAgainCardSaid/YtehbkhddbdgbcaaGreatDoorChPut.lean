/- The chunk that the program lays is the document's: plain facts, no walk. -/
import Derived.Test.YtehbkhddbdgbcaaGreatDoorPChunkBackx22
namespace Go.Proofs.YtehbkhddbdgbcaaGreatDoor.Ch
open Go.RowKit Go.Proofs.YtehbkhddbdgbcaaGreatDoorW.PrintWords Go.Proofs.YtehbkhddbdgbcaaGreatDoorW.PrintLast Go.Proofs.YtehbkhddbdgbcaaGreatDoorW.PrintMore Go.Proofs.YtehbkhddbdgbcaaGreatDoor.PChunkBack Go.Proofs.YtehbkhddbdgbcaaGreatDoor.Bits
set_option linter.unusedVariables false
set_option linter.unusedSimpArgs false
theorem rd34 {l : List S40} {i : Nat} (h : i < l.length) : rd_T40 l (i : Int) = l[i] := by simp [rd_T40, h]
theorem up {i : Nat} (h : i ≤ 100000) : wrap64 ((i : Int) + 1) = ((i + 1 : Nat) : Int) := by rw [w64 (by omega) (by omega)]; rfl
/-! which values are looked at -/
def gB (l : List S40) (i : Nat) : Bool := !decide (l.length ≤ 100 ∧ ∀ v ∈ (l.take 100).drop i, v.f2.size ≤ 100)
theorem great_out (l : List S40) (i : Nat) (hd : (l.take 100).drop i = []) : Ev (fun k => estreatref14_Great.j1 k l 100 100 i false) (gB l i) := by
  refine Ev.step (f := fun _ => some (gB l i)) (fun k => ?_) (Ev.now _)
  simp only [estreatref14_Great.j1]
  rw [if_neg (by decide)]
  unfold gB
  rw [hd]
  by_cases h : l.length ≤ 100
  · have h2 : ¬ (l.length : Int) > 100 := by omega
    simp [h, h2]
  · have h2 : (l.length : Int) > 100 := by omega
    simp [h, h2]
theorem great_l0 (l : List S40) : ∀ (n i : Nat), 100 ≤ i + n → i ≤ 100 → Ev (fun k => estreatref14_Great.l0 k l 100 100 i) (gB l i) := by
  intro n
  induction n with
  | zero =>
    intro i hi hi2
    refine Ev.step (fun k => ?_) (great_out l i (by simp; omega))
    simp only [estreatref14_Great.l0]
    by_cases h : (i : Int) < l.length
    · rw [if_pos h, decide_eq_false (by omega)]
    · rw [if_neg h]
  | succ n ih =>
    intro i hi hi2
    by_cases h : i < l.length
    · by_cases h1 : i < 100
      · have hdr : (l.take 100).drop i = l[i] :: (l.take 100).drop (i + 1) := by
          rw [List.drop_eq_getElem_cons (by rw [List.length_take]; omega)]; simp
        by_cases hb : l[i].f2.size ≤ 100
        · have hg : gB l i = gB l (i + 1) := by unfold gB; rw [hdr]; simp [hb]
          rw [hg]
          refine Ev.step (f := fun k => estreatref14_Great.j1 k l 100 100 i true) (fun k => ?_) (Ev.step (fun k => ?_) (ih (i + 1) (by omega) (by omega)))
          · simp only [estreatref14_Great.l0]; rw [if_pos (by omega), decide_eq_true (by omega)]
          · simp only [estreatref14_Great.j1]; rw [if_pos trivial, if_pos (by omega), if_pos (by omega), rd34 h, if_neg (by omega), up (by omega)]
        · have hg : gB l i = true := by unfold gB; rw [hdr]; simp [hb]
          rw [hg]
          refine Ev.step (f := fun k => estreatref14_Great.j1 k l 100 100 i true) (fun k => ?_) (Ev.step (f := fun _ => some true) (fun k => ?_) (Ev.now _))
          · simp only [estreatref14_Great.l0]; rw [if_pos (by omega), decide_eq_true (by omega)]
          · simp only [estreatref14_Great.j1]; rw [if_pos trivial, if_pos (by omega), if_pos (by omega), rd34 h, if_pos (by omega)]
      · refine Ev.step (fun k => ?_) (great_out l i (by simp; omega))
        simp only [estreatref14_Great.l0]
        rw [if_pos (by omega), decide_eq_false (by omega)]
    · refine Ev.step (fun k => ?_) (great_out l i (by simp; omega))
      simp only [estreatref14_Great.l0]
      rw [if_neg (by omega)]
theorem great_f (l : List S40) : Ev (fun k => estreatref14_Great.f k l 100 100) (gB l 0) := great_l0 l 100 0 (by omega) (by omega)
/-! which values may be -/
def rightB (v : S40) (kind : Int) : Bool := if v.f0 = 0 then (v.f1 == 0 && v.f2.toList == []) else if v.f0 = kind then (if v.f0 = 1 then v.f2.toList == [] else if v.f0 = 2 then v.f1 == 0 else false) else false
theorem right_f (v : S40) (kind : Int) : chunk_right.f v.f0 v.f1 v.f2 kind = some (rightB v kind) := by
  unfold chunk_right.f rightB
  by_cases h0 : v.f0 = 0
  · simp [h0]
  · by_cases hk : v.f0 = kind
    · subst hk
      by_cases h1 : v.f0 = 1
      · by_cases hs : v.f2.toList = [] <;> simp [h1, hs]
      · by_cases h2 : v.f0 = 2 <;> simp [h0, h1, h2]
    · by_cases h1 : v.f0 = 1
      · have hk1 : ¬ (1 : Int) = kind := fun h => hk (h1.trans h)
        by_cases hs : v.f2.toList = [] <;> simp [h1, hk1, hs]
      · by_cases h2 : v.f0 = 2
        · have hk1 : ¬ (2 : Int) = kind := fun h => hk (h2.trans h)
          simp [h2, hk1]
        · simp [h0, h1, h2, hk]
def checkOf (l : List S40) (kind : Int) : Int := if l.all (fun v => rightB v kind) then 0 else 11
theorem check_l1 (l : List S40) (kind : Int) (hl : l.length ≤ 300) : ∀ (n i : Nat), l.length = i + n → Ev (fun k => chunk_check.l1 k kind l (l.length : Int) i) (if (l.drop i).all (fun v => rightB v kind) then 0 else 11) := by
  intro n
  induction n with
  | zero =>
    intro i hi
    rw [List.drop_of_length_le (by omega)]
    refine Ev.step (f := fun _ => some 0) (fun k => ?_) (Ev.now _)
    simp only [chunk_check.l1]
    rw [if_neg (by omega)]
  | succ n ih =>
    intro i hi
    rw [List.drop_eq_getElem_cons (by omega), List.all_cons]
    cases hr : rightB l[i] kind
    · refine Ev.step (f := fun _ => some 11) (fun k => ?_) (Ev.now _)
      simp only [chunk_check.l1]
      rw [if_pos (by omega), if_pos (by omega), if_pos (by omega), rd34 (by omega), right_f, hr]
      rfl
    · refine Ev.step (fun k => ?_) (ih (i + 1) (by omega))
      simp only [chunk_check.l1]
      rw [if_pos (by omega), if_pos (by omega), if_pos (by omega), rd34 (by omega), right_f, hr, up (by omega)]
      rfl
theorem check_l0 (l : List S40) (kind : Int) (hl : l.length ≤ 300) (hs : ∀ v ∈ l, v.f2.size ≤ 1000) : ∀ (n i : Nat), l.length = i + n → Ev (fun k => chunk_check.l0 k l kind l (l.length : Int) i) (checkOf l kind) := by
  intro n
  induction n with
  | zero =>
    intro i hi
    refine Ev.step (fun k => ?_) (check_l1 l kind hl l.length 0 (by omega))
    simp only [chunk_check.l0]
    rw [if_neg (by omega)]
    rfl
  | succ n ih =>
    intro i hi
    have := hs l[i] (List.getElem_mem _)
    refine Ev.step (fun k => ?_) (ih (i + 1) (by omega))
    simp only [chunk_check.l0]
    rw [if_pos (by omega), if_pos (by omega), if_pos (by omega), rd34 (by omega), if_neg (by omega), up (by omega)]
theorem check_f {l : List S40} (h : Fine l) (kind : Int) : Ev (fun k => chunk_check.f k l kind) (checkOf l kind) := by
  have hn := h.n
  refine Ev.congr (fun k => ?_) (check_l0 l kind h.n h.s l.length 0 (by omega))
  unfold chunk_check.f
  rw [if_neg (by omega)]
  rfl
theorem kinds_of {l : List S40} {kind : Int} (hk : kind = 1 ∨ kind = 2) (h : checkOf l kind = 0) : ∀ v ∈ l, v.f0 = 0 ∨ v.f0 = 1 ∨ v.f0 = 2 := by
  intro v hv
  have ha : l.all (fun v => rightB v kind) = true := by
    cases hb : l.all (fun v => rightB v kind)
    · unfold checkOf at h; rw [hb] at h; exact absurd h (by decide)
    · rfl
  have hr := List.all_eq_true.1 ha v hv
  unfold rightB at hr
  by_cases h0 : v.f0 = 0
  · exact .inl h0
  · by_cases h1 : v.f0 = kind
    · rcases hk with rfl | rfl
      · exact .inr (.inl h1)
      · exact .inr (.inr h1)
    · rw [if_neg h0, if_neg h1] at hr; cases hr
theorem lay_f {l : List S40} (h : Fine l) (way : Int) (h0 : 0 ≤ way) (hw : way ≤ 5) : chunk_lay.f l way = some (layOf l way.toNat) := by
  unfold chunk_lay.f
  rw [if_pos ⟨h.n, h.s, h.i, h0, hw⟩]
end Go.Proofs.YtehbkhddbdgbcaaGreatDoor.Ch
namespace Go.Proofs.YtehbkhddbdgbcaaGreatDoor.Ch
open Go.RowKit Go.Proofs.YtehbkhddbdgbcaaGreatDoorW.PrintWords Go.Proofs.YtehbkhddbdgbcaaGreatDoorW.PrintLast Go.Proofs.YtehbkhddbdgbcaaGreatDoorW.PrintMore Go.Proofs.YtehbkhddbdgbcaaGreatDoor.PChunkBack Go.Proofs.YtehbkhddbdgbcaaGreatDoor.Bits
set_option linter.unusedVariables false
set_option linter.unusedSimpArgs false
def ofB (way kind : Int) : Bool := decide (kind = 1 ∧ 0 ≤ way ∧ way ≤ 4 ∨ kind = 2 ∧ way = 5)
theorem of_f {way kind : Int} (hk : kind = 1 ∨ kind = 2) : chunk_of.f way kind = some (ofB way kind) := by
  unfold chunk_of.f ofB
  rcases hk with rfl | rfl
  · by_cases h0 : way ≥ 0 <;> by_cases h4 : way ≤ 4 <;> simp [h0, h4]
  · by_cases h5 : way = 5 <;> simp [h5]
theorem of_way {way kind : Int} (h : ofB way kind = true) : 0 ≤ way ∧ way ≤ 5 := by
  have := of_decide_eq_true h; omega
theorem nil_of {s : ByteArray} (h : s.toList = []) : s = ⟨#[]⟩ := by
  rw [Pure.tb_toList] at h
  unfold Pure.tb at h
  obtain ⟨d⟩ := s
  simp only [Array.toList_eq_nil_iff] at h
  subst h
  rfl
theorem right_of {l : List S40} {kind : Int} (hk : kind = 1 ∨ kind = 2) (hc : checkOf l kind = 0) : ∀ v ∈ l, (v.f0 = 0 ∨ v.f0 = kind) ∧ (v.f0 = 0 → v = z40) ∧ (v.f0 = 1 → v.f2 = ⟨#[]⟩) ∧ (v.f0 = 2 → v.f1 = 0) := by
  intro v hv
  have ha : l.all (fun v => rightB v kind) = true := by
    cases hb : l.all (fun v => rightB v kind)
    · unfold checkOf at hc; rw [hb] at hc; exact absurd hc (by decide)
    · rfl
  have hr := List.all_eq_true.1 ha v hv
  unfold rightB at hr
  obtain ⟨v0, v1, v2⟩ := v
  dsimp only at hr ⊢
  by_cases h0 : v0 = 0
  · rw [if_pos h0, Bool.and_eq_true] at hr
    have h1 := eq_of_beq hr.1
    have h2 := nil_of (eq_of_beq hr.2)
    subst h0; subst h1; subst h2
    exact ⟨.inl rfl, fun _ => rfl, fun h => absurd h (by decide), fun _ => rfl⟩
  · rw [if_neg h0] at hr
    by_cases h1 : v0 = kind
    · rw [if_pos h1] at hr
      refine ⟨.inr h1, fun h => absurd h h0, fun h => ?_, fun h => ?_⟩
      · rw [if_pos h] at hr; exact nil_of (eq_of_beq hr)
      · rw [if_neg (by omega), if_pos h] at hr; exact eq_of_beq hr
    · rw [if_neg h1] at hr; cases hr
/-! the best way -/
def lenOf (l : List S40) (way : Int) : Int := ((layOf l way.toNat).length : Int)
def Inv (l : List S40) (kind : Int) (i : Nat) (b s : Int) : Prop :=
  b = -1 ∧ (kind = 1 → i = 0) ∧ (kind = 2 → i ≤ 5) ∨ (0 ≤ b ∧ b ≤ 5) ∧ ofB b kind = true ∧ s = lenOf l b ∧ ∀ j : Nat, j < i → ofB j kind = true → lenOf l b ≤ lenOf l j
theorem best_l0 {l : List S40} (h : Fine l) {kind : Int} (hk : kind = 1 ∨ kind = 2) : ∀ (n i : Nat) (b s : Int), 6 = i + n → Inv l kind i b s →
    ∃ r, ((0 ≤ r ∧ r ≤ 5) ∧ ofB r kind = true) ∧ Ev (fun k => chunk_Best.l0 k l kind b s i) r ∧ ∀ j : Nat, j < 6 → ofB j kind = true → lenOf l r ≤ lenOf l j := by
  intro n
  induction n with
  | zero =>
    intro i b s hi hI
    obtain rfl : i = 6 := by omega
    rcases hI with ⟨_, h1, h2⟩ | ⟨hb, hbo, _, hm⟩
    · rcases hk with rfl | rfl
      · have := h1 rfl; omega
      · have := h2 rfl; omega
    · refine ⟨b, ⟨hb, hbo⟩, Ev.step (f := fun _ => some b) (fun k => ?_) (Ev.now _), hm⟩
      simp only [chunk_Best.l0]; rw [if_neg (by omega)]
  | succ n ih =>
    intro i b s hi hI
    have hl1 := lay_f h (i : Int) (by omega) (by omega)
    cases ho : ofB (i : Int) kind
    · obtain ⟨r, hr, e1, e2⟩ := ih (i + 1) b s (by omega) (by
        rcases hI with ⟨h0, h1, h2⟩ | ⟨h1, h2, h3, h4⟩
        · refine .inl ⟨h0, fun h => ?_, fun h => ?_⟩
          · have := h1 h; subst this; subst h; exact absurd ho (by decide)
          · have := h2 h
            by_cases h5 : i = 5
            · subst h5; subst h; exact absurd ho (by decide)
            · omega
        · refine .inr ⟨h1, h2, h3, fun j hj hoj => ?_⟩
          by_cases e : j = i
          · subst e; rw [ho] at hoj; cases hoj
          · exact h4 j (by omega) hoj)
      refine ⟨r, hr, Ev.step (fun k => ?_) e1, e2⟩
      simp only [chunk_Best.l0]; rw [if_pos (by omega), of_f hk, ho, up (by omega)]; rfl
    · rcases hI with ⟨h0, h1, h2⟩ | ⟨hb, hbo, hs, hm⟩
      · obtain ⟨r, hr, e1, e2⟩ := ih (i + 1) i (lenOf l i) (by omega) (.inr ⟨⟨by omega, by omega⟩, ho, rfl, fun j hj hoj => by
          by_cases e : j = i
          · subst e; exact Int.le_refl _
          · exfalso
            have hoj2 := of_decide_eq_true hoj
            have ho2 := of_decide_eq_true ho
            rcases hk with rfl | rfl
            · have := h1 rfl; omega
            · omega⟩)
        subst h0
        refine ⟨r, hr, Ev.step (fun k => ?_) e1, e2⟩
        simp only [chunk_Best.l0]; rw [if_pos (by omega), of_f hk, ho, hl1, up (by omega)]; rfl
      · by_cases hlt : lenOf l i < lenOf l b
        · obtain ⟨r, hr, e1, e2⟩ := ih (i + 1) i (lenOf l i) (by omega) (.inr ⟨⟨by omega, by omega⟩, ho, rfl, fun j hj hoj => by
            by_cases e : j = i
            · subst e; exact Int.le_refl _
            · have := hm j (by omega) hoj; omega⟩)
          refine ⟨r, hr, Ev.step (fun k => ?_) e1, e2⟩
          simp only [chunk_Best.l0]; rw [if_pos (by omega), of_f hk, ho, hl1, up (by omega)]
          show (if b = -1 then _ else if lenOf l i < s then _ else _) = _
          rw [if_neg (by omega), hs, if_pos hlt]; rfl
        · obtain ⟨r, hr, e1, e2⟩ := ih (i + 1) b s (by omega) (.inr ⟨hb, hbo, hs, fun j hj hoj => by
            by_cases e : j = i
            · subst e; omega
            · exact hm j (by omega) hoj⟩)
          refine ⟨r, hr, Ev.step (fun k => ?_) e1, e2⟩
          simp only [chunk_Best.l0]; rw [if_pos (by omega), of_f hk, ho, hl1, up (by omega)]
          show (if b = -1 then _ else if lenOf l i < s then _ else _) = _
          rw [if_neg (by omega), hs, if_neg hlt]
theorem kind_f (kind : Int) : chunk_isKind.f kind = some (decide (kind = 1 ∨ kind = 2)) := by
  unfold chunk_isKind.f
  by_cases h1 : kind = 1
  · simp [h1]
  · by_cases h2 : kind = 2 <;> simp [h1, h2]
theorem best_yes {l : List S40} (h : Fine l) {kind : Int} (hk : kind = 1 ∨ kind = 2) (hc : checkOf l kind = 0) : ∃ r, ((0 ≤ r ∧ r ≤ 5) ∧ ofB r kind = true) ∧ Ev (fun k => chunk_Best.f k l kind) r ∧ ∀ j : Nat, j < 6 → ofB j kind = true → lenOf l r ≤ lenOf l j := by
  obtain ⟨r, hr, e1, e2⟩ := best_l0 h hk 6 0 (-1) 0 (by omega) (.inl ⟨rfl, fun _ => rfl, fun _ => by omega⟩)
  have hc1 := check_f h kind
  rw [hc] at hc1
  refine ⟨r, hr, ?_, e2⟩
  unfold chunk_Best.f
  rw [kind_f, decide_eq_true hk]
  refine Ev.bind (Ev.now true) (Ev.bind hc1 (Ev.step (fun k => ?_) e1))
  simp only [chunk_Best.j0]
  rfl
theorem best_no {l : List S40} (h : Fine l) {kind : Int} (hb : ¬ (kind = 1 ∨ kind = 2) ∨ checkOf l kind ≠ 0) : Ev (fun k => chunk_Best.f k l kind) (-1) := by
  unfold chunk_Best.f
  by_cases hk : kind = 1 ∨ kind = 2
  · have hne : (checkOf l kind != 0) = true := bne_iff_ne.2 (hb.resolve_left (fun h => h hk))
    rw [kind_f, decide_eq_true hk]
    refine Ev.bind (Ev.now true) (Ev.bind (check_f h kind) (Ev.step (f := fun _ => some (-1)) (fun k => ?_) (Ev.now _)))
    simp only [chunk_Best.j0]; rw [hne]; rfl
  · rw [kind_f, decide_eq_false hk]
    refine Ev.bind (Ev.now false) (Ev.step (f := fun _ => some (-1)) (fun k => ?_) (Ev.now _))
    simp only [chunk_Best.j0]; rfl
/-! what is put -/
theorem put_no (l : List S40) {kind : Int} (way : Int) (hk : ¬ (kind = 1 ∨ kind = 2)) : Ev (fun k => chunk_Put.f k l kind way) ([], 1) := by
  unfold chunk_Put.f
  rw [kind_f, decide_eq_false hk]
  refine Ev.bind (Ev.now false) (Ev.step (f := fun _ => some ([], 1)) (fun k => ?_) (Ev.now _))
  simp only [chunk_Put.j0]; rfl
theorem put_of (l : List S40) {kind way : Int} (hk : kind = 1 ∨ kind = 2) (hw : way ≠ -1) (ho : ofB way kind = false) : Ev (fun k => chunk_Put.f k l kind way) ([], 1) := by
  unfold chunk_Put.f
  rw [kind_f, decide_eq_true hk]
  refine Ev.bind (Ev.now true) ?_
  simp only [if_neg hw, if_pos]
  rw [of_f hk, ho]
  refine Ev.bind (Ev.now false) (Ev.step (f := fun _ => some ([], 1)) (fun k => ?_) (Ev.now _))
  simp only [chunk_Put.j0]; rfl
theorem put_in (l : List S40) {kind way : Int} (hk : kind = 1 ∨ kind = 2) (hw : way = -1 ∨ way ≠ -1 ∧ ofB way kind = true) {r : List Int × Int} (h : Ev (fun k => chunk_Put.j0 k l kind way false) r) : Ev (fun k => chunk_Put.f k l kind way) r := by
  unfold chunk_Put.f
  rw [kind_f, decide_eq_true hk]
  refine Ev.bind (Ev.now true) ?_
  rcases hw with hw | ⟨hw, ho⟩
  · simp only [if_pos hw, if_pos]; exact h
  · simp only [if_neg hw, if_pos]; rw [of_f hk, ho]; exact Ev.bind (Ev.now true) h
theorem put_bad {l : List S40} (h : Fine l) {kind way : Int} (hk : kind = 1 ∨ kind = 2) (hw : way = -1 ∨ way ≠ -1 ∧ ofB way kind = true) (hc : checkOf l kind ≠ 0) : Ev (fun k => chunk_Put.f k l kind way) ([], checkOf l kind) := by
  refine put_in l hk hw (Ev.step (f := fun k => (chunk_check.f k l kind).bind fun t => if t = 0 then (if way = -1 then (chunk_Best.f k l kind).bind fun u => (chunk_lay.f l u).bind fun v => some (v, 0) else (chunk_lay.f l way).bind fun v => some (v, 0)) else some ([], t)) (fun k => ?_) (Ev.bind (check_f h kind) ?_))
  · simp only [chunk_Put.j0]; rfl
  · simp only [if_neg hc]; exact Ev.now _
theorem put_way {l : List S40} (h : Fine l) {kind way : Int} (hk : kind = 1 ∨ kind = 2) (hc : checkOf l kind = 0) (ho : ofB way kind = true) : Ev (fun k => chunk_Put.f k l kind way) (layOf l way.toNat, 0) := by
  have hwy := of_way ho
  have hw : way ≠ -1 := by omega
  have hc1 := check_f h kind
  rw [hc] at hc1
  refine put_in l hk (.inr ⟨hw, ho⟩) (Ev.step (f := fun k => (chunk_check.f k l kind).bind fun t => if t = 0 then (chunk_lay.f l way).bind fun v => some (v, 0) else some ([], t)) (fun k => ?_) (Ev.bind hc1 ?_))
  · simp only [chunk_Put.j0, if_neg hw]; rfl
  · rw [lay_f h way hwy.1 hwy.2]; exact Ev.now _
theorem put_auto {l : List S40} (h : Fine l) {kind : Int} (hk : kind = 1 ∨ kind = 2) (hc : checkOf l kind = 0) : ∃ r, ((0 ≤ r ∧ r ≤ 5) ∧ ofB r kind = true) ∧ Ev (fun k => chunk_Put.f k l kind (-1)) (layOf l r.toNat, 0) ∧ ∀ j : Nat, j < 6 → ofB j kind = true → lenOf l r ≤ lenOf l j := by
  obtain ⟨r, hr, b1, hm⟩ := best_yes h hk hc
  have hc1 := check_f h kind
  rw [hc] at hc1
  refine ⟨r, hr, put_in l hk (.inl rfl) (Ev.step (f := fun k => (chunk_check.f k l kind).bind fun t => if t = 0 then (chunk_Best.f k l kind).bind fun u => (chunk_lay.f l u).bind fun v => some (v, 0) else some ([], t)) (fun k => ?_) (Ev.bind hc1 (Ev.bind b1 ?_))), hm⟩
  · simp only [chunk_Put.j0]; rfl
  · rw [lay_f h r hr.1.1 hr.1.2]; exact Ev.now _
/-! the example -/
theorem same_ev (a b : List Int) (h : a.length ≤ 9000000) : Ev (fun k => estreatref01_Same.f k a b) (decide (a = b)) := ⟨a.length + 1, fun k hk => Pure.same_f a b (by omega) k (by omega)⟩
def awl : List S40 := [(⟨0, 0, (⟨#[]⟩ : ByteArray)⟩ : S40), (⟨1, 3, (⟨#[]⟩ : ByteArray)⟩ : S40)]
theorem aw_fine : Fine awl := ⟨by decide, by decide, by decide⟩
theorem empty_list : (⟨#[]⟩ : ByteArray).toList = [] := by unfold ByteArray.toList ByteArray.toList.loop; rfl
theorem aw_check : checkOf awl 1 = 0 := by
  unfold checkOf awl
  simp [rightB, empty_list]
theorem aw_lay : layOf awl 0 = [1, 1, 0, 6] := by
  have h1 : frontOf awl = [1, 1] := by decide
  have h2 : wayOf awl 0 = [6] := by
    show Pure.plainOf [3] = [6]
    simp [Pure.plainOf, leb_small, zz]
  unfold layOf
  rw [h1, h2]
  rfl
theorem awake_ev : Ev (fun k => estreatlaw14_awake.f k) true := by
  have h1 := put_way aw_fine (kind := 1) (way := 0) (.inl rfl) aw_check (by decide)
  rw [show (0 : Int).toNat = 0 from rfl, aw_lay] at h1
  unfold estreatlaw14_awake.f
  refine Ev.bind h1 ?_
  refine Ev.bind (same_ev _ _ (by decide)) ?_
  exact Ev.now _
theorem same14_l0 (l : List S40) (hl : l.length ≤ 300) : ∀ (n i : Nat), l.length = i + n → Ev (fun k => estreatref14_Same.l0 k l l i) true := by
  intro n
  induction n with
  | zero =>
    intro i hi
    refine Ev.step (f := fun _ => some true) (fun k => ?_) (Ev.now _)
    simp only [estreatref14_Same.l0]
    rw [if_neg (by omega)]
  | succ n ih =>
    intro i hi
    refine Ev.step (fun k => ?_) (ih (i + 1) (by omega))
    simp only [estreatref14_Same.l0]
    rw [if_pos (by omega), if_pos (by omega), if_pos (by omega), up (by omega)]
    simp
theorem same14 (l : List S40) (hl : l.length ≤ 300) : Ev (fun k => estreatref14_Same.f k l l) true := by
  unfold estreatref14_Same.f
  simp only [if_true]
  exact same14_l0 l hl l.length 0 (by omega)
end Go.Proofs.YtehbkhddbdgbcaaGreatDoor.Ch
