/- A disk as plain data: its files by name, each with its bytes and how many are sure. -/
namespace Go.Proofs.Ytcblcffkppiclaa.Dk
structure Fi where
  b : List Int
  sure : Nat
abbrev Fl := List (List UInt8 × Fi)
def get : Fl → List UInt8 → Option Fi
  | [], _ => none
  | (k, x) :: r, s => if k = s then some x else get r s
def put : Fl → List UInt8 → Fi → Fl
  | [], s, x => [(s, x)]
  | (k, y) :: r, s, x => if k = s then (s, x) :: r else (k, y) :: put r s x
def del : Fl → List UInt8 → Fl
  | [], _ => []
  | (k, y) :: r, s => if k = s then r else (k, y) :: del r s
def keys (l : Fl) : List (List UInt8) := l.map (·.1)
def used (l : Fl) : Nat := (l.map (·.2.b.length)).sum
theorem get_put (l : Fl) (s t : List UInt8) (x : Fi) : get (put l s x) t = if t = s then some x else get l t := by
  induction l with
  | nil =>
    by_cases h : t = s
    · subst h; simp [put, get]
    · simp only [put, get, h, if_false]; rw [if_neg (fun e => h e.symm)]
  | cons a r ih =>
    obtain ⟨k, y⟩ := a
    unfold put
    by_cases h : k = s
    · subst h
      rw [if_pos rfl]
      by_cases h2 : t = k
      · subst h2; simp [get]
      · have h3 : ¬ k = t := fun e => h2 e.symm
        simp only [get, if_neg h3, if_neg h2]
    · rw [if_neg h]
      unfold get
      by_cases h2 : k = t
      · subst h2; simp [h]
      · rw [if_neg h2, if_neg h2, ih]
theorem get_none (l : Fl) (s : List UInt8) : get l s = none ↔ s ∉ keys l := by
  induction l with
  | nil => simp [get, keys]
  | cons a r ih =>
    obtain ⟨k, y⟩ := a
    unfold get
    by_cases h : k = s
    · subst h; simp [keys]
    · rw [if_neg h, ih]; have e2 : keys ((k, y) :: r) = k :: keys r := rfl; rw [e2, List.mem_cons, not_or]; exact ⟨fun e => ⟨fun e2 => h e2.symm, e⟩, fun e => e.2⟩
theorem mem_keys (l : Fl) (s : List UInt8) : s ∈ keys l ↔ (get l s).isSome = true := by
  have := get_none l s
  cases h : get l s <;> simp_all
theorem get_del {l : Fl} (hn : (keys l).Nodup) (s t : List UInt8) : get (del l s) t = if t = s then none else get l t := by
  induction l with
  | nil => simp [del, get]
  | cons a r ih =>
    obtain ⟨k, y⟩ := a
    have hn' : k ∉ keys r ∧ (keys r).Nodup := by simpa [keys] using hn
    unfold del
    by_cases h : k = s
    · subst h
      rw [if_pos rfl]
      by_cases h2 : t = k
      · subst h2; rw [if_pos rfl]; exact (get_none r t).2 hn'.1
      · rw [if_neg h2]; simp [get, show ¬ k = t from fun e => h2 e.symm]
    · rw [if_neg h]
      unfold get
      by_cases h2 : k = t
      · subst h2; simp [h]
      · rw [if_neg h2, if_neg h2, ih hn'.2]
theorem keys_put (l : Fl) (s : List UInt8) (x : Fi) : keys (put l s x) = if s ∈ keys l then keys l else keys l ++ [s] := by
  induction l with
  | nil => simp [put, keys]
  | cons a r ih =>
    obtain ⟨k, y⟩ := a
    unfold put
    by_cases h : k = s
    · subst h; simp [keys]
    · rw [if_neg h]
      have e : keys ((k, y) :: put r s x) = k :: keys (put r s x) := rfl
      have e2 : keys ((k, y) :: r) = k :: keys r := rfl
      rw [e, e2, ih]
      by_cases h2 : s ∈ keys r
      · rw [if_pos h2, if_pos (List.mem_cons_of_mem _ h2)]
      · rw [if_neg h2, if_neg (by simp [h2]; exact fun e => h e.symm)]; rfl
theorem nodup_put {l : Fl} (hn : (keys l).Nodup) (s : List UInt8) (x : Fi) : (keys (put l s x)).Nodup := by
  rw [keys_put]
  split
  · exact hn
  · rename_i h
    rw [List.nodup_append]
    refine ⟨hn, by simp, fun a ha b hb => ?_⟩
    simp at hb
    subst hb
    intro e
    subst e
    exact h ha
theorem keys_del {l : Fl} (s : List UInt8) : keys (del l s) = (keys l).erase s := by
  induction l with
  | nil => rfl
  | cons a r ih =>
    obtain ⟨k, y⟩ := a
    unfold del
    by_cases h : k = s
    · subst h; simp [keys]
    · rw [if_neg h]
      have e : keys ((k, y) :: del r s) = k :: keys (del r s) := rfl
      have e2 : keys ((k, y) :: r) = k :: keys r := rfl
      rw [e, e2, ih, List.erase_cons_tail (by simpa using h)]
theorem nodup_del {l : Fl} (hn : (keys l).Nodup) (s : List UInt8) : (keys (del l s)).Nodup := by
  rw [keys_del]; exact hn.erase s
theorem keys_len (l : Fl) : (keys l).length = l.length := by simp [keys]
theorem len_put (l : Fl) (s : List UInt8) (x : Fi) : (put l s x).length = if (get l s).isSome then l.length else l.length + 1 := by
  rw [← keys_len (put l s x), keys_put]
  by_cases h : s ∈ keys l
  · rw [if_pos ((mem_keys l s).1 h), if_pos h, keys_len]
  · rw [if_neg (fun e => h ((mem_keys l s).2 e)), if_neg h, List.length_append, keys_len]; rfl
theorem len_del (l : Fl) (s : List UInt8) : (del l s).length = if (get l s).isSome then l.length - 1 else l.length := by
  rw [← keys_len (del l s), keys_del]
  by_cases h : s ∈ keys l
  · rw [if_pos ((mem_keys l s).1 h), List.length_erase_of_mem h, keys_len]
  · rw [if_neg (fun e => h ((mem_keys l s).2 e)), List.erase_of_not_mem h, keys_len]
theorem used_put (l : Fl) (s : List UInt8) (x : Fi) : used (put l s x) + ((get l s).map (·.b.length)).getD 0 = used l + x.b.length := by
  induction l with
  | nil => simp [put, used, get]
  | cons a r ih =>
    obtain ⟨k, y⟩ := a
    unfold put get
    by_cases h : k = s
    · subst h; simp [used]; omega
    · rw [if_neg h, if_neg h]
      have e : used ((k, y) :: put r s x) = y.b.length + used (put r s x) := by simp [used]
      have e2 : used ((k, y) :: r) = y.b.length + used r := by simp [used]
      omega
theorem used_del (l : Fl) (s : List UInt8) : used (del l s) + ((get l s).map (·.b.length)).getD 0 = used l := by
  induction l with
  | nil => simp [del, used, get]
  | cons a r ih =>
    obtain ⟨k, y⟩ := a
    unfold del get
    by_cases h : k = s
    · subst h; simp [used]; omega
    · rw [if_neg h, if_neg h]
      have e : used ((k, y) :: del r s) = y.b.length + used (del r s) := by simp [used]
      have e2 : used ((k, y) :: r) = y.b.length + used r := by simp [used]
      omega
theorem get_used {l : Fl} {s : List UInt8} {x : Fi} (h : get l s = some x) : x.b.length ≤ used l := by
  have := used_del l s
  rw [h] at this
  simp at this
  omega
/-- The disk. -/
structure St where
  room : Nat
  fl : Fl
  fuse : Int
  down : Bool
structure St.Ok (s : St) : Prop where
  apart : (keys s.fl).Nodup
  sure : ∀ n x, get s.fl n = some x → x.sure ≤ x.b.length
  fits : used s.fl ≤ s.room
  room : s.room ≤ 1099511627776
  fuse0 : -1 ≤ s.fuse
  fuse1 : s.fuse ≤ 9223372036854775807
  few : s.fl.length ≤ 65536
def isName (s : List UInt8) : Bool := s.all (fun c => (decide (97 ≤ c.toNat) && decide (c.toNat ≤ 122)) || (decide (48 ≤ c.toNat) && decide (c.toNat ≤ 57)) || c.toNat == 45 || c.toNat == 46) && decide (1 ≤ s.length) && decide (s.length ≤ 32)
def burn (s : St) : St := if 0 < s.fuse then { s with fuse := s.fuse - 1 } else s
def fails (s : St) : Bool := decide (s.fuse = 0)
def putb (s : St) (n : List UInt8) (b : List Int) : Int × St :=
  if isName n = false then (1, s)
  else if (get s.fl n).isNone = true ∧ s.fl.length = 65536 then (12, s)
  else if s.room < used s.fl + b.length then (7, s)
  else (0, { s with fl := put s.fl n ⟨((get s.fl n).map (·.b)).getD [] ++ b, ((get s.fl n).map (·.sure)).getD 0⟩ })
def append (s : St) (n : List UInt8) (b : List Int) : Int × St :=
  if s.down = true then (15, s)
  else if fails s = true then (15, { (putb (burn s) n b).2 with down := true })
  else putb (burn s) n b
def deed (s : St) (n : List UInt8) (k : St → Fi → Int × St) : Int × St :=
  if s.down = true then (15, s)
  else if fails s = true then (15, { s with down := true })
  else if isName n = false then (1, burn s)
  else match get s.fl n with
    | none => (8, burn s)
    | some f => k (burn s) f
def sync (s : St) (n : List UInt8) : Int × St := deed s n (fun s f => (0, { s with fl := put s.fl n ⟨f.b, f.b.length⟩ }))
def delete (s : St) (n : List UInt8) : Int × St := deed s n (fun s _ => (0, { s with fl := del s.fl n }))
def rename (s : St) (n to : List UInt8) : Int × St :=
  deed s n (fun s f => if isName to = false then (1, s) else if n = to then (0, s) else (0, { s with fl := put (del (del s.fl to) n) to f }))
def cut (s : St) (n : List UInt8) (k : Int) : Int × St :=
  deed s n (fun s f => if k < 0 ∨ (f.b.length : Int) < k then (5, s) else (0, { s with fl := put s.fl n ⟨f.b.take k.toNat, min f.sure k.toNat⟩ }))
theorem Ok_burn {s : St} (h : s.Ok) : (burn s).Ok := by
  unfold burn
  split
  · exact ⟨h.apart, h.sure, h.fits, h.room, by have := h.fuse1; simp; omega, by have := h.fuse1; simp; omega, h.few⟩
  · exact h
theorem burn_fl (s : St) : (burn s).fl = s.fl := by unfold burn; split <;> rfl
theorem burn_room (s : St) : (burn s).room = s.room := by unfold burn; split <;> rfl
theorem burn_down (s : St) : (burn s).down = s.down := by unfold burn; split <;> rfl
/-- One file is set: what stays true. -/
theorem Ok_put {s : St} (h : s.Ok) (n : List UInt8) (x : Fi) (hx : x.sure ≤ x.b.length) (hf : used (put s.fl n x) ≤ s.room) (hc : (get s.fl n).isSome = true ∨ s.fl.length < 65536) : ({ s with fl := put s.fl n x } : St).Ok := by
  refine ⟨nodup_put h.apart n x, fun t y hy => ?_, hf, h.room, h.fuse0, h.fuse1, ?_⟩
  · simp only [get_put] at hy
    split at hy
    · cases hy; exact hx
    · exact h.sure t y hy
  · have := len_put s.fl n x
    have hw := h.few
    simp only
    rw [this]
    rcases hc with hc | hc
    · rw [if_pos hc]; exact hw
    · split <;> omega
theorem Ok_del {s : St} (h : s.Ok) (n : List UInt8) : ({ s with fl := del s.fl n } : St).Ok := by
  refine ⟨nodup_del h.apart n, fun t y hy => ?_, ?_, h.room, h.fuse0, h.fuse1, ?_⟩
  · simp only [get_del h.apart] at hy
    split at hy
    · cases hy
    · exact h.sure t y hy
  · have := used_del s.fl n; have := h.fits; simp only; omega
  · have := len_del s.fl n
    have := h.few
    simp only
    rw [len_del]
    split <;> omega
theorem Ok_down {s : St} (h : s.Ok) (d : Bool) : ({ s with down := d } : St).Ok := ⟨h.apart, h.sure, h.fits, h.room, h.fuse0, h.fuse1, h.few⟩
theorem Ok_putb {s : St} (h : s.Ok) (n : List UInt8) (b : List Int) : (putb s n b).2.Ok := by
  unfold putb
  split
  · exact h
  · split
    · exact h
    · split
      · exact h
      · rename_i h1 h2 h3
        refine Ok_put h n _ ?_ ?_ ?_
        · cases hg : get s.fl n with
          | none => simp
          | some x => have := h.sure n x hg; simp; omega
        · have := used_put s.fl n ⟨((get s.fl n).map (·.b)).getD [] ++ b, ((get s.fl n).map (·.sure)).getD 0⟩
          cases hg : get s.fl n with
          | none => rw [hg] at this; simp at this; simp; omega
          | some x => rw [hg] at this; simp at this; simp; omega
        · have hw := h.few
          cases hg : get s.fl n with
          | none => right; rw [hg] at h2; simp at h2; omega
          | some x => left; rfl
theorem Ok_append {s : St} (h : s.Ok) (n : List UInt8) (b : List Int) : (append s n b).2.Ok := by
  unfold append
  split
  · exact h
  · split
    · exact Ok_down (Ok_putb (Ok_burn h) n b) true
    · exact Ok_putb (Ok_burn h) n b
theorem Ok_deed {s : St} (h : s.Ok) (n : List UInt8) (k : St → Fi → Int × St) (hk : ∀ f, get (burn s).fl n = some f → (k (burn s) f).2.Ok) : (deed s n k).2.Ok := by
  unfold deed
  split
  · exact h
  · split
    · exact Ok_down h true
    · split
      · exact Ok_burn h
      · split
        · exact Ok_burn h
        · rename_i f hf
          exact hk f (by rw [burn_fl]; exact hf)
theorem Ok_same {s : St} (h : s.Ok) (n : List UInt8) (f x : Fi) (hf : get s.fl n = some f) (hx : x.sure ≤ x.b.length) (hl : x.b.length ≤ f.b.length) : ({ s with fl := put s.fl n x } : St).Ok := by
  refine Ok_put h n x hx ?_ (.inl (by rw [hf]; rfl))
  have := used_put s.fl n x
  rw [hf] at this
  simp at this
  have := h.fits
  omega
theorem Ok_sync {s : St} (h : s.Ok) (n : List UInt8) : (sync s n).2.Ok :=
  Ok_deed h n _ fun f hf => Ok_same (Ok_burn h) n f _ hf (Nat.le_refl _) (Nat.le_refl _)
theorem Ok_delete {s : St} (h : s.Ok) (n : List UInt8) : (delete s n).2.Ok := Ok_deed h n _ fun _ _ => Ok_del (Ok_burn h) n
theorem Ok_cut {s : St} (h : s.Ok) (n : List UInt8) (k : Int) : (cut s n k).2.Ok := by
  refine Ok_deed h n _ fun f hf => ?_
  have h2 := (Ok_burn h).sure n f hf
  split
  · exact Ok_burn h
  · rename_i hk
    exact Ok_same (Ok_burn h) n f _ hf (by simp; omega) (by simp; omega)
theorem Ok_rename {s : St} (h : s.Ok) (n to : List UInt8) : (rename s n to).2.Ok := by
  refine Ok_deed h n _ fun f hf => ?_
  have hb := Ok_burn h
  split
  · exact hb
  · split
    · exact hb
    · rename_i h1 h2
      have h3 := Ok_del (Ok_del hb to) n
      have h4 := hb.sure n f hf
      have e1 := used_del (burn s).fl to
      have e2 := used_del (del (burn s).fl to) n
      rw [get_del hb.apart, if_neg h2, hf] at e2
      simp at e2
      have e3 := len_del (del (burn s).fl to) n
      rw [get_del hb.apart, if_neg h2, hf] at e3
      simp at e3
      have e4 := len_del (burn s).fl to
      have hp : 0 < (del (burn s).fl to).length := by
        rcases Nat.eq_zero_or_pos (del (burn s).fl to).length with hz | hz
        · have hz := List.eq_nil_of_length_eq_zero hz
          have := get_del hb.apart to n
          rw [hz, if_neg h2, hf] at this
          simp [get] at this
        · exact hz
      have hfew := hb.few
      have hle : (del (burn s).fl to).length ≤ (burn s).fl.length := by rw [e4]; split <;> omega
      refine Ok_put h3 to f h4 ?_ (.inr ?_)
      · have e5 := used_put (del (del (burn s).fl to) n) to f
        have := hb.fits
        simp only
        omega
      · simp only
        omega
end Go.Proofs.Ytcblcffkppiclaa.Dk
