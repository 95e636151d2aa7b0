/- Plain facts on what the ways put (out of earlier laws' texts). -/
import Derived.Test.YtefcchpjbojdkaaGreatDoorChPureB
import Derived.Test.YtefcchpjbojdkaaGreatDoorPChunkPutsx20
namespace Go.Proofs.YtefcchpjbojdkaaGreatDoor.Pure
open Go.RowKit Go.Proofs.YtefcchpjbojdkaaGreatDoor.PChunkPuts Go.Proofs.YtefcchpjbojdkaaGreatDoorW.PrintWords Go.Proofs.YtefcchpjbojdkaaGreatDoorW.PrintLast Go.Proofs.YtefcchpjbojdkaaGreatDoorW.PrintMore
set_option linter.unusedVariables false
set_option linter.unusedSimpArgs false

/-! the list of all that are there -/
def dl (l : List Int) : List Int := Go.Lib.compact (l.mergeSort fun x y => decide (x ≤ y))
theorem arr_get (zs : List Int) (j : Nat) (h : j < zs.length) : zs.toArray[j]! = zs[j] := by simp [getElem!_pos, h]
theorem first_kept (zs : List Int) (x : Int) : ∀ j, j < zs.length → zs.toArray[j]! = x → ∃ i, i < zs.length ∧ zs.toArray[i]! = x ∧ Go.Lib.keeps zs.toArray i = true := by
  intro j
  induction j with
  | zero => intro h e; exact ⟨0, h, e, Go.Lib.keeps_lt_one _ 0 (by decide)⟩
  | succ j ih =>
    intro h e
    by_cases hp : zs.toArray[j]! = x
    · exact ih (by omega) hp
    · refine ⟨j + 1, h, e, Go.Lib.keeps_pos ?_⟩
      rw [e, Nat.add_sub_cancel]; exact fun h => hp h.symm
theorem compact_mem (zs : List Int) (x : Int) : x ∈ Go.Lib.compact zs ↔ x ∈ zs := by
  unfold Go.Lib.compact Go.Lib.compactUpTo
  simp only [List.mem_map, List.mem_filter, List.mem_range]
  constructor
  · rintro ⟨j, ⟨hj, _⟩, rfl⟩
    rw [arr_get zs j hj]; exact List.getElem_mem hj
  · intro hx
    obtain ⟨j, hj, hx⟩ := List.getElem_of_mem hx
    obtain ⟨i, h1, h2, h3⟩ := first_kept zs x j hj (by rw [arr_get zs j hj]; exact hx)
    exact ⟨i, ⟨h1, h3⟩, h2⟩
theorem compact_lt (zs : List Int) (hs : zs.Pairwise (fun x y => x ≤ y)) : (Go.Lib.compact zs).Pairwise (fun x y => x < y) := by
  unfold Go.Lib.compact Go.Lib.compactUpTo
  rw [List.pairwise_map]
  have hr : (List.range zs.length).Pairwise (fun x y => x < y) := List.pairwise_lt_range
  refine (hr.filter _).imp_of_mem ?_
  intro a b ha hb hab
  simp only [List.mem_filter, List.mem_range] at ha hb
  have hle := List.pairwise_iff_getElem.1 hs
  have hk : ¬ zs.toArray[b]! = zs.toArray[b - 1]! := by
    intro e
    have := Go.Lib.keeps_neg (by omega) e
    rw [hb.2] at this; cases this
  rw [arr_get zs b hb.1, arr_get zs (b - 1) (by omega)] at hk
  rw [arr_get zs b hb.1, arr_get zs a ha.1]
  have h1 := hle (b - 1) b (by omega) hb.1 (by omega)
  by_cases e : a = b - 1
  · subst e; omega
  · have h2 := hle a (b - 1) ha.1 (by omega) (by omega)
    omega
theorem sorted_le (l : List Int) : (l.mergeSort fun x y => decide (x ≤ y)).Pairwise (fun x y => x ≤ y) := by
  have := List.pairwise_mergeSort (le := fun (x y : Int) => decide (x ≤ y)) (fun a b c h1 h2 => by simp only [decide_eq_true_eq] at *; omega) (fun a b => by simp only [Bool.or_eq_true, decide_eq_true_eq]; omega) l
  exact this.imp (fun h => by simpa using h)
theorem dl_lt (l : List Int) : (dl l).Pairwise (fun x y => x < y) := compact_lt _ (sorted_le l)
theorem dl_mem (l : List Int) (x : Int) : x ∈ dl l ↔ x ∈ l := by
  unfold dl
  rw [compact_mem]
  exact (List.mergeSort_perm l _).mem_iff
theorem dl_len (l : List Int) : (dl l).length ≤ l.length := by
  have h1 := Go.Lib.compact_length_le (l.mergeSort fun x y => decide (x ≤ y))
  rw [List.length_mergeSort] at h1
  exact h1
theorem lt_ext : ∀ (a b : List Int), a.Pairwise (fun x y => x < y) → b.Pairwise (fun x y => x < y) → (∀ x, x ∈ a ↔ x ∈ b) → a = b := by
  intro a
  induction a with
  | nil =>
    intro b _ _ h
    cases b with
    | nil => rfl
    | cons y b => exact absurd ((h y).2 (by simp)) (by simp)
  | cons x a ih =>
    intro b ha hb h
    cases b with
    | nil => exact absurd ((h x).1 (by simp)) (by simp)
    | cons y b =>
      obtain ⟨a1, a2⟩ := List.pairwise_cons.1 ha
      obtain ⟨b1, b2⟩ := List.pairwise_cons.1 hb
      have hxy : x = y := by
        rcases List.mem_cons.1 ((h x).1 (by simp)) with e | e
        · exact e
        · rcases List.mem_cons.1 ((h y).2 (by simp)) with e2 | e2
          · exact e2.symm
          · have := b1 x e; have := a1 y e2; omega
      subst hxy
      rw [ih b a2 b2 (fun z => ?_)]
      constructor
      · intro hz
        rcases List.mem_cons.1 ((h z).1 (by simp [hz])) with e | e
        · have := a1 z hz; omega
        · exact e
      · intro hz
        rcases List.mem_cons.1 ((h z).2 (by simp [hz])) with e | e
        · have := b1 z hz; omega
        · exact e
theorem dl_eq {l L : List Int} (h1 : L.Pairwise (fun x y => x < y)) (h2 : ∀ x, x ∈ L ↔ x ∈ l) : dl l = L := lt_ext _ _ (dl_lt l) h1 (fun x => by rw [dl_mem, h2])
theorem dl_f {l : List Int} (h : l.length ≤ 1000000) : dict_List.f l = some (dl l) := by unfold dict_List.f; rw [if_pos (by omega)]; rfl

/-! dict.Put -/
theorem wf_mk {x : Int} (h : I64 x) : (Lit.int .i64 x).wf = true := by
  unfold I64 at h
  simp [Lit.wf, IntKind.min, IntKind.max, IntKind.signed, IntKind.bits]; omega
theorem wfu_mk {x : Int} (h0 : 0 ≤ x) (h : x < 18446744073709551616) : (Lit.int .u64 x).wf = true := by
  simp [Lit.wf, IntKind.min, IntKind.max, IntKind.signed, IntKind.bits]; omega
def gaps : Int → List Int → List Int
  | _, [] => []
  | p, y :: r => (y - p - 1) :: gaps y r
def lebs : List Int → List Int
  | [] => []
  | v :: r => leb v.toNat ++ lebs r
def formOf : List Int → List Int
  | [] => []
  | x :: r => leb (zz x).toNat ++ lebs (gaps x r)
def places (L l : List Int) : List Int := l.map (fun x => ((L.idxOf x : Nat) : Int))
def wd (n : Nat) : Nat := Lib.bitLen (n - 1)
def dictOf (l : List Int) : List Int := leb (dl l).length ++ formOf (dl l) ++ [(wd (dl l).length : Int)] ++ (packed (places (dl l) l) (wd (dl l).length)).1
/-- the map's pairs when n numbers have been put -/
def pr (L : List Int) : Nat → List (Int × Int)
  | 0 => []
  | n + 1 => (L.getD n 0, (n : Int)) :: pr L n
theorem pr_length (L : List Int) : ∀ n, (pr L n).length = n
  | 0 => rfl
  | n + 1 => by rw [pr, List.length_cons, pr_length L n]
theorem lt_at {L : List Int} (hL : L.Pairwise (fun x y => x < y)) {i j : Nat} (hj : j < L.length) (h : i < j) : L[i]'(by omega) < L[j] := List.pairwise_iff_getElem.1 hL i j (by omega) hj h
theorem mpGet_pr {L : List Int} (hL : L.Pairwise (fun x y => x < y)) : ∀ n, n ≤ L.length → ∀ j (_ : j < n) (hl : j < L.length), mpGet (pr L n) L[j] = (j : Int) := by
  intro n
  induction n with
  | zero => intro _ j hj; omega
  | succ n ih =>
    intro hn j hj hl
    have hg : L.getD n 0 = L[n]'(by omega) := by simp [show n < L.length by omega]
    rw [pr, mpGet, hg]
    by_cases e : j = n
    · subst e; rw [if_pos rfl]
    · have := lt_at hL (i := j) (j := n) (by omega) (by omega)
      rw [if_neg (by simp only; omega)]
      exact ih (by omega) j (by omega) hl
theorem idx_lt {L : List Int} {x : Int} (h : x ∈ L) : L.idxOf x < L.length := List.idxOf_lt_length_of_mem h
theorem idx_at {L : List Int} {x : Int} (h : x ∈ L) : L[L.idxOf x]'(idx_lt h) = x := List.getElem_idxOf (idx_lt h)
theorem mpGet_idx {L : List Int} (hL : L.Pairwise (fun x y => x < y)) {x : Int} (h : x ∈ L) : mpGet (pr L L.length) x = ((L.idxOf x : Nat) : Int) := by
  have := mpGet_pr hL L.length (Nat.le_refl _) (L.idxOf x) (idx_lt h) (idx_lt h)
  rwa [idx_at h] at this
theorem gap_w {x y : Int} (hx : I64 x) (hy : I64 y) (h : x < y) : IntKind.u64.wrap ((IntKind.u64.wrap (wrap64 (y - x))) - 1) = y - x - 1 := by
  unfold I64 at hx hy
  rw [u64w, u64w]; unfold wrap64; omega
theorem gap_r {x y : Int} (hx : I64 x) (hy : I64 y) (h : x < y) : 0 ≤ y - x - 1 ∧ y - x - 1 < 18446744073709551616 := by
  unfold I64 at hx hy; omega
theorem putvar_ev {v : Int} {b : List Int} (h0 : 0 ≤ v) (h1 : v < 18446744073709551616) (hb : b.length < 140737488000000) : Ev (fun k => num_PutVar.f k b v) (b ++ leb v.toNat) := ⟨10, fun k hk => putvar_f h0 h1 hk hb⟩
theorem mp_put_pr (L : List Int) (i : Nat) (hi : i < L.length) (hn : L.length ≤ 65536) (hL : ∀ x ∈ L, I64 x) : mp_put.f (pr L i) L[i] (IntKind.u64.wrap (i : Int)) = some (pr L (i + 1)) := by
  have hx := hL _ (List.getElem_mem hi)
  unfold mp_put.f
  rw [u64w_id (by omega) (by omega), if_pos ⟨wf_mk hx, wfu_mk (by omega) (by omega), by rw [pr_length]; omega⟩, pr]
  simp [hi]
theorem dput_l0 (l L : List Int) (hL : L.Pairwise (fun x y => x < y)) (hn : L.length ≤ 65536) (hLi : ∀ x ∈ L, I64 x) (res : List Int × Int) :
    ∀ (d j : Nat) (hj : j < L.length) (b : List Int), L.length = (j + 1) + d → b.length ≤ 30 + 10 * j → Ev (fun k => dict_Put.l1 k L (b ++ lebs (gaps L[j] (L.drop (j + 1)))) [] l l.length 0 (pr L L.length)) res →
      Ev (fun k => dict_Put.l0 k l L b L L.length ((j + 1 : Nat) : Int) (pr L (j + 1))) res := by
  intro d
  induction d with
  | zero =>
    intro j hj b hd hb h
    rw [List.drop_of_length_le (by omega), gaps, lebs, List.append_nil] at h
    rw [show L.length = j + 1 by omega] at h ⊢
    refine Ev.step (fun k => ?_) h
    simp only [dict_Put.l0]
    rw [if_neg (Int.lt_irrefl _)]
  | succ d ih =>
    intro j hj b hd hb h
    have hi : j + 1 < L.length := by omega
    have hlt := lt_at hL (i := j) (j := j + 1) hi (by omega)
    have hx := hLi _ (List.getElem_mem hj)
    have hy := hLi _ (List.getElem_mem hi)
    have hr := gap_r hx hy hlt
    have h10 := leb_length10 (v := (L[j + 1] - L[j] - 1).toNat) (by omega)
    have hnext := ih (j + 1) hi (b ++ leb (L[j + 1] - L[j] - 1).toNat) (by omega) (by rw [List.length_append]; omega) (by
      rw [dropc L (j + 1) hi, gaps, lebs, ← List.append_assoc] at h
      exact h)
    have hpv := putvar_ev (b := b) hr.1 hr.2 (by omega)
    have e1 : wrap64 (((j + 1 : Nat) : Int) - 1) = (j : Int) := by rw [w64 (by omega) (by omega)]; omega
    have e2 : wrap64 (((j + 1 : Nat) : Int) + 1) = ((j + 1 + 1 : Nat) : Int) := by rw [w64 (by omega) (by omega)]; omega
    refine Ev.step (f := fun k => _) (fun k => by
      simp only [dict_Put.l0]
      rw [if_pos (Int.ofNat_lt.2 hi), if_pos (Int.natCast_nonneg _), if_pos (Int.ofNat_lt.2 hi), rd_get hi, mp_put_pr L (j + 1) hi hn hLi, Option.bind_some, if_neg (by omega), e1, if_pos (Int.natCast_nonneg _), if_pos (Int.ofNat_lt.2 hj), rd_get hj, gap_w hx hy hlt, e2]) ?_
    exact Ev.bind hpv hnext
theorem dict_width_f (n : Nat) (hn : n ≤ 65536) : dict_width.f (n : Int) = some (wd n : Int) := by
  have e : IntKind.u64.wrap (mx (wrap64 ((n : Int) - 1)) 0) = ((n - 1 : Nat) : Int) := by
    rw [w64 (by omega) (by omega)]
    unfold mx
    split <;> (rw [u64w_id (by omega) (by omega)]; omega)
  unfold dict_width.f bits_Len.f wd
  rw [e, if_pos (Int.natCast_nonneg _), if_pos (by omega), Option.bind_some, Int.toNat_natCast]
theorem wd_64 (n : Nat) (hn : n ≤ 65536) : wd n ≤ 64 := bitlen_le (by omega)
theorem places_len (L l : List Int) : (places L l).length = l.length := by simp [places]
theorem places_fit {L l : List Int} (hm : ∀ x ∈ l, x ∈ L) (hn : L.length ≤ 65536) : (∀ x ∈ places L l, 0 ≤ x ∧ x < 18446744073709551616) ∧ fitAll (places L l) (wd L.length) := by
  constructor
  · intro x hx
    obtain ⟨y, hy, rfl⟩ := List.mem_map.1 hx
    have := idx_lt (hm y hy)
    omega
  · intro x hx
    obtain ⟨y, hy, rfl⟩ := List.mem_map.1 hx
    have h1 := idx_lt (hm y hy)
    have h2 := bitlen_lt (Nat.le_refl (Lib.bitLen (L.length - 1))) (by omega)
    rw [Int.toNat_natCast]
    exact Nat.lt_of_le_of_lt (by omega) h2
theorem places_ok {L l : List Int} (hm : ∀ x ∈ l, x ∈ L) (hn : L.length ≤ 65536) (hl : l.length ≤ 65536) : (packed (places L l) (wd L.length)).2 = 0 ∧ (packed (places L l) (wd L.length)).1.length ≤ 8 * l.length + 1 := by
  have oa : okSize ((places L l).length : Int) ((wd L.length : Nat) : Int) := ⟨by omega, by rw [places_len]; omega, by omega, by have := wd_64 L.length hn; omega⟩
  unfold packed
  rw [if_pos oa, Int.toNat_natCast, if_pos (places_fit hm hn).2]
  refine ⟨rfl, ?_⟩
  show (digs _ _).length ≤ _
  rw [digs_length, places_len]
  have : l.length * wd L.length ≤ l.length * 64 := Nat.mul_le_mul_left _ (wd_64 _ hn)
  unfold sizeN; omega
theorem dput_l1 (l L b : List Int) (hL : L.Pairwise (fun x y => x < y)) (hm : ∀ x ∈ l, x ∈ L) (hn : L.length ≤ 65536) (hl : l.length ≤ 65536) (hli : ∀ x ∈ l, I64 x) (hb : b.length ≤ 1000000) :
    ∀ (d i : Nat), l.length = i + d → Ev (fun k => dict_Put.l1 k L b ((places L l).take i) l l.length i (pr L L.length)) (b ++ [(wd L.length : Int)] ++ (packed (places L l) (wd L.length)).1, 0) := by
  intro d
  induction d with
  | zero =>
    intro i hd
    obtain ⟨p1, p2⟩ := places_ok hm hn hl
    have hw := wd_64 L.length hn
    rw [List.take_of_length_le (by rw [places_len]; omega)]
    refine Ev.step (f := fun k => _) (fun k => by
      simp only [dict_Put.l1]
      rw [if_neg (by omega), dict_width_f _ hn, Option.bind_some]) ?_
    refine Ev.bind (pack_f (places L l) _ (places_fit hm hn).1) ?_
    have i1 : b.length < 140737488355328 := by omega
    have i2 : (b ++ [(wd L.length : Int)]).length + (packed (places L l) ((wd L.length : Nat) : Int)).1.length < 140737488355328 := by rw [List.length_append, List.length_singleton]; omega
    have i3 : ((wd L.length : Nat) : Int) % 256 = (wd L.length : Int) := by omega
    simp only [i3, if_pos i1, Option.bind_some, if_pos i2, p1]
    exact Ev.now _
  | succ d ih =>
    intro i hd
    have hi : i < l.length := by omega
    have hx := hli _ (List.getElem_mem hi)
    refine Ev.step (fun k => ?_) (ih (i + 1) (by omega))
    have hg : mp_get.f (pr L L.length) l[i] = some (((L.idxOf l[i] : Nat) : Int), pr L L.length) := by
      unfold mp_get.f
      rw [if_pos (wf_mk hx), mpGet_idx hL (hm _ (List.getElem_mem hi))]
    simp only [dict_Put.l1]
    rw [if_pos (Int.ofNat_lt.2 hi), if_pos (Int.natCast_nonneg _), if_pos (Int.ofNat_lt.2 hi), rd_get hi, hg, Option.bind_some, if_pos (by rw [List.length_take]; omega), w64 (n := (i : Int) + 1) (by omega) (by omega)]
    have e : (places L l).take (i + 1) = (places L l).take i ++ [((L.idxOf l[i] : Nat) : Int)] := by
      rw [List.take_succ_eq_append_getElem (by rw [places_len]; exact hi)]
      congr 2
      simp [places]
    rw [e]
    rfl
theorem lebs_gaps_len : ∀ (r : List Int) (p : Int), I64 p → (∀ x ∈ r, I64 x) → (p :: r).Pairwise (fun x y => x < y) → (lebs (gaps p r)).length ≤ 10 * r.length := by
  intro r
  induction r with
  | nil => intro p _ _ _; simp [gaps, lebs]
  | cons y r ih =>
    intro p hp hr hs
    obtain ⟨s1, s2⟩ := List.pairwise_cons.1 hs
    have hy := hr y (by simp)
    have hg := gap_r hp hy (s1 y (by simp))
    have h10 := leb_length10 (v := (y - p - 1).toNat) (by omega)
    have := ih y hy (fun x hx => hr x (by simp [hx])) s2
    rw [gaps, lebs, List.length_append, List.length_cons]
    omega
theorem formOf_len (L : List Int) (hL : L.Pairwise (fun x y => x < y)) (hLi : ∀ x ∈ L, I64 x) : (formOf L).length ≤ 10 * L.length := by
  cases L with
  | nil => exact Nat.zero_le _
  | cons x r =>
    have hx := hLi x (by simp)
    have hz := zz_range hx.1 hx.2
    have h10 := leb_length10 (v := (zz x).toNat) (by omega)
    have := lebs_gaps_len r x hx (fun y hy => hLi y (by simp [hy])) hL
    rw [formOf, List.length_append, List.length_cons]
    omega
theorem dictput_f (l : List Int) (hl : l.length ≤ 65536) (hli : ∀ x ∈ l, I64 x) : Ev (fun k => dict_Put.f k l) (dictOf l, 0) := by
  unfold dict_Put.f dictOf
  have c : ¬ (l.length : Int) > 65536 := by omega
  simp only [if_neg c]
  rw [dl_f (by omega)]
  have hL := dl_lt l
  have hn : (dl l).length ≤ 65536 := Nat.le_trans (dl_len l) hl
  have hLi : ∀ x ∈ dl l, I64 x := fun x hx => hli x ((dl_mem l x).1 hx)
  have hm : ∀ x ∈ l, x ∈ dl l := fun x hx => (dl_mem l x).2 hx
  generalize dl l = L at *
  have hf := formOf_len L hL hLi
  refine Ev.bind (Ev.now _) ?_
  refine Ev.bind (a := ([] : List (Int × Int))) (Ev.now _) ?_
  have e0 : IntKind.u64.wrap (L.length : Int) = (L.length : Int) := u64w_id (by omega) (by omega)
  rw [e0]
  have hp0 := putvar_ev (b := []) (v := (L.length : Int)) (by omega) (by omega) (by decide)
  rw [Int.toNat_natCast, List.nil_append] at hp0
  refine Ev.bind hp0 ?_
  have h10 := leb_length10 (v := L.length) (by omega)
  have hend := dput_l1 l L (leb L.length ++ formOf L) hL hm hn hl hli (by rw [List.length_append]; omega) l.length 0 (by omega)
  rw [List.take_zero] at hend
  cases L with
  | nil =>
    rw [formOf, List.append_nil] at hend ⊢
    refine Ev.step (fun k => ?_) hend
    simp only [dict_Put.l0]
    rw [if_neg (by simp)]
    rfl
  | cons x r =>
    have hx := hLi x (by simp)
    have hz := zz_range hx.1 hx.2
    have h10z := leb_length10 (v := (zz x).toNat) (by omega)
    have hpv := putvar_ev (b := leb (x :: r).length) hz.1 hz.2 (by omega)
    have h0 : (0 : Nat) < (x :: r).length := by simp
    have hput := mp_put_pr (x :: r) 0 h0 hn hLi
    refine Ev.step (f := fun k => (num_PutVar.f k (leb (x :: r).length) (zz x)).bind fun t => dict_Put.l0 k l (x :: r) t (x :: r) (x :: r).length ((0 + 1 : Nat) : Int) (pr (x :: r) (0 + 1))) (fun k => by
      simp only [dict_Put.l0]
      have hrd : rd (x :: r) 0 = x := rfl
      have e : mp_put.f ([] : List (Int × Int)) x (IntKind.u64.wrap 0) = some (pr (x :: r) (0 + 1)) := hput
      rw [if_pos (by simp only [List.length_cons]; omega), if_pos (Int.le_refl 0), if_pos (by simp only [List.length_cons]; omega), hrd, e, Option.bind_some, if_pos trivial, zig_f hx.1 hx.2, Option.bind_some, w64 (n := (0 : Int) + 1) (by omega) (by omega)]
      rfl) ?_
    refine Ev.bind hpv ?_
    refine dput_l0 l (x :: r) hL hn hLi _ r.length 0 h0 _ (by simp only [List.length_cons]; omega) (by rw [List.length_append]; omega) ?_
    have e : leb (x :: r).length ++ formOf (x :: r) = leb (x :: r).length ++ leb (zz x).toNat ++ lebs (gaps x r) := by rw [formOf, List.append_assoc]
    show Ev (fun k => dict_Put.l1 k (x :: r) (leb (x :: r).length ++ leb (zz x).toNat ++ lebs (gaps x r)) [] l l.length 0 (pr (x :: r) (x :: r).length)) _
    rw [← e]
    exact hend

/-! estreatref11: List, Width, Put -/
def insA (x : Int) : Bool → List Int → List Int
  | true, ys => ys
  | false, [] => [x]
  | false, y :: ys => if y ≥ x then (if y > x then x :: y :: ys else y :: ys) else y :: insA x false ys
theorem insA_mem (x : Int) : ∀ (ys : List Int) (z : Int), z ∈ insA x false ys ↔ z = x ∨ z ∈ ys := by
  intro ys
  induction ys with
  | nil => intro z; simp [insA]
  | cons y ys ih =>
    intro z
    rw [insA]
    by_cases h : y ≥ x
    · rw [if_pos h]
      by_cases h2 : y > x
      · rw [if_pos h2]; simp
      · rw [if_neg h2]
        have : y = x := by omega
        subst this; simp
    · rw [if_neg h]
      simp only [List.mem_cons, ih]
      constructor
      · rintro (h | h | h)
        · exact .inr (.inl h)
        · exact .inl h
        · exact .inr (.inr h)
      · rintro (h | h | h)
        · exact .inr (.inl h)
        · exact .inl h
        · exact .inr (.inr h)
theorem insA_lt (x : Int) : ∀ (ys : List Int), ys.Pairwise (fun a b => a < b) → (insA x false ys).Pairwise (fun a b => a < b) := by
  intro ys
  induction ys with
  | nil => intro _; simp [insA]
  | cons y ys ih =>
    intro hs
    obtain ⟨s1, s2⟩ := List.pairwise_cons.1 hs
    rw [insA]
    by_cases h : y ≥ x
    · rw [if_pos h]
      by_cases h2 : y > x
      · rw [if_pos h2]
        refine List.pairwise_cons.2 ⟨fun z hz => ?_, hs⟩
        rcases List.mem_cons.1 hz with rfl | hz
        · exact h2
        · have := s1 z hz; omega
      · rw [if_neg h2]; exact hs
    · rw [if_neg h]
      refine List.pairwise_cons.2 ⟨fun z hz => ?_, ih s2⟩
      rcases (insA_mem x ys z).1 hz with rfl | hz
      · omega
      · exact s1 z hz
theorem dl_snoc (a : List Int) (x : Int) : dl (a ++ [x]) = insA x false (dl a) := by
  refine dl_eq (insA_lt x _ (dl_lt a)) (fun z => ?_)
  rw [insA_mem, dl_mem]
  simp only [List.mem_append, List.mem_singleton]
  exact ⟨fun h => h.symm, fun h => h.symm⟩
theorem refl_l1 (l out : List Int) (i : Nat) (hi : i < l.length) (hl : l.length ≤ 1000000) (ho : out.length ≤ 1000000) (res : List Int) :
    ∀ (d j : Nat) (acc : List Int) (done : Bool), out.length = j + d → acc.length ≤ 2 * j + 1 → Ev (fun k => estreatref11_List.l0 k l (acc ++ insA l[i] done (out.drop j)) ((i + 1 : Nat) : Int)) res → Ev (fun k => estreatref11_List.l1 k l out i acc done j) res := by
  have e2 : wrap64 ((i : Int) + 1) = ((i + 1 : Nat) : Int) := by rw [w64 (by omega) (by omega)]; omega
  intro d
  induction d with
  | zero =>
    intro j acc done hd ha h
    rw [List.drop_of_length_le (by omega)] at h
    refine Ev.step (fun k => ?_) h
    simp only [estreatref11_List.l1]
    rw [if_neg (by omega)]
    cases done
    · rw [if_neg (by decide), if_pos (Int.natCast_nonneg _), if_pos (Int.ofNat_lt.2 hi), if_pos (by omega), rd_get hi, e2]; rfl
    · rw [if_pos rfl, e2, insA, List.append_nil]
  | succ d ih =>
    intro j acc done hd ha h
    have hj : j < out.length := by omega
    have e3 : wrap64 ((j : Int) + 1) = ((j + 1 : Nat) : Int) := by rw [w64 (by omega) (by omega)]; omega
    rw [dropc out j hj] at h
    cases done
    · rw [insA] at h
      refine Ev.step (f := fun k => estreatref11_List.j2 k l out i acc false j (decide (out[j] ≥ l[i]))) (fun k => by
        simp only [estreatref11_List.l1]
        rw [if_pos (Int.ofNat_lt.2 hj), if_neg (by decide), if_pos (Int.natCast_nonneg _), if_pos (Int.natCast_nonneg _), if_pos (Int.ofNat_lt.2 hi), rd_get hi, rd_get hj]) ?_
      by_cases c : out[j] ≥ l[i]
      · rw [if_pos c] at h
        rw [decide_eq_true c]
        by_cases c2 : out[j] > l[i]
        · rw [if_pos c2] at h
          have hn := ih (j + 1) (acc ++ [l[i]] ++ [out[j]]) true (by omega) (by simp; omega) (by
            rw [insA]; simpa using h)
          refine Ev.step (fun k => ?_) hn
          simp only [estreatref11_List.j2]
          rw [if_pos trivial, if_pos (Int.natCast_nonneg _), if_pos (Int.ofNat_lt.2 hj), if_pos (Int.natCast_nonneg _), if_pos (Int.ofNat_lt.2 hi), rd_get hi, rd_get hj, if_pos c2, if_pos (by omega), Option.bind_some, if_pos (by simp; omega), e3]
        · rw [if_neg c2] at h
          have hn := ih (j + 1) (acc ++ [out[j]]) true (by omega) (by simp; omega) (by
            rw [insA]; simpa using h)
          refine Ev.step (fun k => ?_) hn
          simp only [estreatref11_List.j2]
          rw [if_pos trivial, if_pos (Int.natCast_nonneg _), if_pos (Int.ofNat_lt.2 hj), if_pos (Int.natCast_nonneg _), if_pos (Int.ofNat_lt.2 hi), rd_get hi, rd_get hj, if_neg c2, if_pos (by omega), e3]
      · rw [if_neg c] at h
        rw [decide_eq_false c]
        have hn := ih (j + 1) (acc ++ [out[j]]) false (by omega) (by simp; omega) (by simpa using h)
        refine Ev.step (fun k => ?_) hn
        simp only [estreatref11_List.j2]
        rw [if_neg (by decide), if_pos (Int.natCast_nonneg _), if_pos (Int.ofNat_lt.2 hj), rd_get hj, if_pos (by omega), e3]
    · rw [insA] at h
      have hn := ih (j + 1) (acc ++ [out[j]]) true (by omega) (by simp; omega) (by rw [insA]; simpa using h)
      refine Ev.step (f := fun k => estreatref11_List.j2 k l out i acc true j false) (fun k => by
        simp only [estreatref11_List.l1]
        rw [if_pos (Int.ofNat_lt.2 hj), if_pos trivial]) ?_
      refine Ev.step (fun k => ?_) hn
      simp only [estreatref11_List.j2]
      rw [if_neg (by decide), if_pos (Int.natCast_nonneg _), if_pos (Int.ofNat_lt.2 hj), rd_get hj, if_pos (by omega), e3]
theorem refl_l0 (l : List Int) (hl : l.length ≤ 1000000) : ∀ (d i : Nat), l.length = i + d → Ev (fun k => estreatref11_List.l0 k l (dl (l.take i)) i) (dl l) := by
  intro d
  induction d with
  | zero =>
    intro i hd
    rw [List.take_of_length_le (by omega)]
    exact Ev.step (f := fun _ => some (dl l)) (fun k => by simp only [estreatref11_List.l0]; rw [if_neg (by omega)]) (Ev.now _)
  | succ d ih =>
    intro i hd
    have hi : i < l.length := by omega
    have hlen := dl_len (l.take i)
    rw [List.length_take] at hlen
    have hn := ih (i + 1) (by omega)
    rw [List.take_succ_eq_append_getElem hi, dl_snoc] at hn
    refine Ev.step (f := fun k => estreatref11_List.l1 k l (dl (l.take i)) i [] false ((0 : Nat) : Int)) (fun k => by
      simp only [estreatref11_List.l0]
      rw [if_pos (Int.ofNat_lt.2 hi)]; rfl) ?_
    exact refl_l1 l (dl (l.take i)) i hi hl (by omega) _ (dl (l.take i)).length 0 [] false (by omega) (Nat.zero_le _) (by rw [List.drop_zero, List.nil_append]; exact hn)
theorem reflist_f (l : List Int) (hl : l.length ≤ 1000000) : Ev (fun k => estreatref11_List.f k l) (dl l) := by
  unfold estreatref11_List.f
  have := refl_l0 l hl l.length 0 (by omega)
  rw [List.take_zero, show dl [] = [] from dl_eq List.Pairwise.nil (fun x => Iff.rfl)] at this
  exact this
theorem wd_iff {n w : Nat} (hn : n ≤ 65536) (hw : w ≤ 64) : 2 ^ w < n ↔ w < wd n := by
  unfold wd
  have h := bitlen_iff (v := n - 1) (k := w) (by omega) hw
  have hp := Nat.two_pow_pos w
  generalize 2 ^ w = p at h hp ⊢
  generalize Lib.bitLen (n - 1) = q at h ⊢
  constructor
  · intro h1
    refine Nat.lt_of_not_le (fun h2 => ?_)
    have := h.1 h2
    omega
  · intro h1
    refine Nat.lt_of_not_le (fun h2 => ?_)
    have := h.2 (by omega)
    omega
theorem dbl_w {n w : Nat} (h : 2 ^ w < n) (hn : n ≤ 65536) : wrap64 (2 * ((2 ^ w : Nat) : Int)) = ((2 ^ (w + 1) : Nat) : Int) := by
  rw [Nat.pow_succ]
  generalize 2 ^ w = p at h
  rw [w64 (by omega) (by omega)]; omega
theorem refw_l0 (n : Nat) (hn : n ≤ 65536) : ∀ (d w : Nat), wd n = w + d → Ev (fun k => estreatref11_Width.l0 k n w ((2 ^ w : Nat) : Int)) (wd n : Int) := by
  have h64 := wd_64 n hn
  intro d
  induction d with
  | zero =>
    intro w hd
    have hw : w ≤ 64 := by omega
    have he : wd n = w := hd
    have h : ¬ 2 ^ w < n := fun h => by
      have h2 := (wd_iff hn hw).1 h
      rw [he] at h2
      exact Nat.lt_irrefl _ h2
    rw [he]
    exact Ev.step (f := fun _ => some (w : Int)) (fun k => by
      simp only [estreatref11_Width.l0]
      rw [if_neg (fun h2 => h (Int.ofNat_lt.1 h2))]) (Ev.now _)
  | succ d ih =>
    intro w hd
    have hw : w ≤ 64 := by omega
    have hlt : w < wd n := by omega
    have hih := ih (w + 1) (by omega)
    have e3 : wrap64 ((w : Int) + 1) = ((w + 1 : Nat) : Int) := by rw [w64 (by omega) (by omega)]; rfl
    have h : 2 ^ w < n := (wd_iff hn hw).2 hlt
    have e := dbl_w h hn
    refine Ev.step (fun k => ?_) hih
    simp only [estreatref11_Width.l0]
    rw [if_pos (Int.ofNat_lt.2 h), e, e3]
theorem refwd_f (n : Nat) (hn : n ≤ 65536) : Ev (fun k => estreatref11_Width.f k n) (wd n : Int) := by
  unfold estreatref11_Width.f
  exact refw_l0 n hn (wd n) 0 (by omega)
theorem gap_w2 {x y : Int} (hx : I64 x) (hy : I64 y) (h : x < y) : IntKind.u64.wrap ((IntKind.u64.wrap ((IntKind.u64.wrap y) - (IntKind.u64.wrap x))) - 1) = y - x - 1 := by
  unfold I64 at hx hy
  rw [u64w, u64w, u64w, u64w]; omega
theorem u64w_nat {j n : Nat} (h : j < n) (hn : n ≤ 65536) : IntKind.u64.wrap (j : Int) = (j : Int) := u64w_id (by omega) (by omega)
theorem len_ok {n : Nat} (h : n ≤ 65536) : n < 17592186044416 := by omega
theorem rput_l2 (l L b : List Int) (hL : L.Pairwise (fun x y => x < y)) (hn : L.length ≤ 65536) (hl : l.length ≤ 65536) (i : Nat) (hi : i < l.length) (q : Nat) (hq : q < L.length) (x : Int) (hx : l[i] = x) (hat : L[q] = x) (at_ : List Int) (ha : at_.length ≤ 65536) (res : List Int)
    (h : Ev (fun k => estreatref11_Put.l1 k l L b (at_ ++ [(q : Int)]) ((i + 1 : Nat) : Int)) res) :
    ∀ (d j : Nat), L.length = j + d → Ev (fun k => estreatref11_Put.l2 k l L b (at_ ++ if q < j then [(q : Int)] else []) i j) res := by
  have e2 : wrap64 ((i : Int) + 1) = ((i + 1 : Nat) : Int) := by rw [w64 (by omega) (by omega)]; omega
  intro d
  induction d with
  | zero =>
    intro j hd
    rw [if_pos (by omega)]
    refine Ev.step (fun k => ?_) h
    simp only [estreatref11_Put.l2]
    rw [if_neg (by omega), e2]
  | succ d ih =>
    intro j hd
    have hj : j < L.length := by omega
    have e3 : wrap64 ((j : Int) + 1) = ((j + 1 : Nat) : Int) := by rw [w64 (by omega) (by omega)]; omega
    have e4 : IntKind.u64.wrap (j : Int) = (j : Int) := u64w_nat hj hn
    have hlen : at_.length < 17592186044416 := len_ok ha
    have hd2 : L.length = j + 1 + d := by omega
    have c1 : q < j → q < j + 1 := fun h => Nat.lt_succ_of_lt h
    have c2 : j < q → ¬ q < j ∧ ¬ q < j + 1 := fun h => ⟨Nat.not_lt.2 (Nat.le_of_lt h), Nat.not_lt.2 h⟩
    rcases Nat.lt_trichotomy j q with c | c | c
    · have he : ¬ L[j] = x := by have := lt_at hL hq c; rw [hat] at this; omega
      have hn2 := ih (j + 1) hd2
      rw [if_neg (c2 c).1]
      rw [if_neg (c2 c).2] at hn2
      refine Ev.step (fun k => ?_) hn2
      simp only [estreatref11_Put.l2]
      rw [if_pos (Int.ofNat_lt.2 hj), if_pos (Int.natCast_nonneg _), if_pos (Int.natCast_nonneg _), if_pos (Int.ofNat_lt.2 hi), rd_get hj, rd_get hi, hx, if_neg he, e3]
    · subst c
      have hn2 := ih (j + 1) hd2
      rw [if_neg (Nat.lt_irrefl _)]
      rw [if_pos (Nat.lt_succ_self _)] at hn2
      refine Ev.step (fun k => ?_) hn2
      simp only [estreatref11_Put.l2]
      rw [if_pos (Int.ofNat_lt.2 hj), if_pos (Int.natCast_nonneg _), if_pos (Int.natCast_nonneg _), if_pos (Int.ofNat_lt.2 hi), rd_get hj, rd_get hi, hx, if_pos hat, e3, List.append_nil, if_pos hlen, e4]
    · have he : ¬ L[j] = x := by have := lt_at hL hj c; rw [hat] at this; omega
      have hn2 := ih (j + 1) hd2
      rw [if_pos c]
      rw [if_pos (c1 c)] at hn2
      refine Ev.step (fun k => ?_) hn2
      simp only [estreatref11_Put.l2]
      rw [if_pos (Int.ofNat_lt.2 hj), if_pos (Int.natCast_nonneg _), if_pos (Int.natCast_nonneg _), if_pos (Int.ofNat_lt.2 hi), rd_get hj, rd_get hi, hx, if_neg he, e3]
theorem rput_l1 (l L b : List Int) (hL : L.Pairwise (fun x y => x < y)) (hm : ∀ x ∈ l, x ∈ L) (hn : L.length ≤ 65536) (hl : l.length ≤ 65536) (hb : b.length ≤ 1000000) :
    ∀ (d i : Nat), l.length = i + d → Ev (fun k => estreatref11_Put.l1 k l L b ((places L l).take i) i) (b ++ [(wd L.length : Int)] ++ (packed (places L l) (wd L.length)).1) := by
  intro d
  induction d with
  | zero =>
    intro i hd
    obtain ⟨p1, p2⟩ := places_ok hm hn hl
    have hw := wd_64 L.length hn
    rw [List.take_of_length_le (by rw [places_len]; omega)]
    refine Ev.step (f := fun k => _) (fun k => by
      simp only [estreatref11_Put.l1]
      rw [if_neg (by omega)]) ?_
    refine Ev.bind (refwd_f L.length hn) ?_
    refine Ev.bind (refpack_f (places L l) _ (places_fit hm hn).1) ?_
    have i1 : b.length < 140737488355328 := by omega
    have i2 : (b ++ [(wd L.length : Int)]).length + (packed (places L l) ((wd L.length : Nat) : Int)).1.length < 140737488355328 := by rw [List.length_append, List.length_singleton]; omega
    have i3 : ((wd L.length : Nat) : Int) % 256 = (wd L.length : Int) := by omega
    simp only [i3, if_pos i1, Option.bind_some, if_pos i2]
    exact Ev.now _
  | succ d ih =>
    intro i hd
    have hi : i < l.length := by omega
    have hn2 := ih (i + 1) (by omega)
    have e : (places L l).take (i + 1) = (places L l).take i ++ [((L.idxOf l[i] : Nat) : Int)] := by
      rw [List.take_succ_eq_append_getElem (by rw [places_len]; exact hi)]
      congr 2
      simp [places]
    rw [e] at hn2
    have h2 := rput_l2 l L b hL hn hl i hi (L.idxOf l[i]) (idx_lt (hm _ (List.getElem_mem hi))) l[i] rfl (idx_at (hm _ (List.getElem_mem hi))) ((places L l).take i) (by rw [List.length_take]; omega) _ hn2 L.length 0 (by omega)
    rw [if_neg (Nat.not_lt_zero _), List.append_nil] at h2
    refine Ev.step (fun k => ?_) h2
    simp only [estreatref11_Put.l1]
    rw [if_pos (Int.ofNat_lt.2 hi)]
    rfl
theorem rput_l0 (l L : List Int) (hL : L.Pairwise (fun x y => x < y)) (hn : L.length ≤ 65536) (hLi : ∀ x ∈ L, I64 x) (res : List Int) :
    ∀ (d j : Nat) (hj : j < L.length) (b : List Int), L.length = (j + 1) + d → b.length ≤ 30 + 10 * j → Ev (fun k => estreatref11_Put.l1 k l L (b ++ lebs (gaps L[j] (L.drop (j + 1)))) [] 0) res →
      Ev (fun k => estreatref11_Put.l0 k l L b ((j + 1 : Nat) : Int)) res := by
  intro d
  induction d with
  | zero =>
    intro j hj b hd hb h
    rw [List.drop_of_length_le (by omega), gaps, lebs, List.append_nil] at h
    refine Ev.step (fun k => ?_) h
    simp only [estreatref11_Put.l0]
    rw [if_neg (by omega)]
  | succ d ih =>
    intro j hj b hd hb h
    have hi : j + 1 < L.length := by omega
    have hlt := lt_at hL (i := j) (j := j + 1) hi (by omega)
    have hx := hLi _ (List.getElem_mem hj)
    have hy := hLi _ (List.getElem_mem hi)
    have hr := gap_r hx hy hlt
    have h10 := leb_length10 (v := (L[j + 1] - L[j] - 1).toNat) (by omega)
    have hnext := ih (j + 1) hi (b ++ leb (L[j + 1] - L[j] - 1).toNat) (by omega) (by rw [List.length_append]; omega) (by
      rw [dropc L (j + 1) hi, gaps, lebs, ← List.append_assoc] at h
      exact h)
    have e1 : wrap64 (((j + 1 : Nat) : Int) - 1) = (j : Int) := by rw [w64 (by omega) (by omega)]; omega
    have e2 : wrap64 (((j + 1 : Nat) : Int) + 1) = ((j + 1 + 1 : Nat) : Int) := by rw [w64 (by omega) (by omega)]; omega
    refine Ev.step (f := fun k => _) (fun k => by
      simp only [estreatref11_Put.l0]
      rw [if_pos (Int.ofNat_lt.2 hi), if_neg (by omega), if_pos (Int.natCast_nonneg _), e1, if_pos (Int.natCast_nonneg _), if_pos (Int.ofNat_lt.2 hj), rd_get hj, rd_get hi, gap_w2 hx hy hlt, e2]) ?_
    refine Ev.bind (refvar_ev hr.1 hr.2) ?_
    have i1 : b.length + (leb (L[j + 1] - L[j] - 1).toNat).length < 140737488355328 := by omega
    simp only [if_pos i1]
    exact hnext
theorem refdict_f (l : List Int) (hl : l.length ≤ 65536) (hli : ∀ x ∈ l, I64 x) : Ev (fun k => estreatref11_Put.f k l) (dictOf l) := by
  unfold estreatref11_Put.f dictOf
  refine Ev.bind (reflist_f l (by omega)) ?_
  have hL := dl_lt l
  have hn : (dl l).length ≤ 65536 := Nat.le_trans (dl_len l) hl
  have hLi : ∀ x ∈ dl l, I64 x := fun x hx => hli x ((dl_mem l x).1 hx)
  have hm : ∀ x ∈ l, x ∈ dl l := fun x hx => (dl_mem l x).2 hx
  generalize dl l = L at *
  have hf := formOf_len L hL hLi
  have e0 : IntKind.u64.wrap (L.length : Int) = (L.length : Int) := u64w_id (by omega) (by omega)
  rw [e0]
  have hp0 := refvar_ev (v := (L.length : Int)) (by omega) (by omega)
  rw [Int.toNat_natCast] at hp0
  refine Ev.bind hp0 ?_
  have h10 := leb_length10 (v := L.length) (by omega)
  have hend := rput_l1 l L (leb L.length ++ formOf L) hL hm hn hl (by rw [List.length_append]; omega) l.length 0 (by omega)
  rw [List.take_zero] at hend
  cases L with
  | nil =>
    rw [formOf, List.append_nil] at hend ⊢
    refine Ev.step (fun k => ?_) hend
    simp only [estreatref11_Put.l0]
    rw [if_neg (by simp)]
    rfl
  | cons x r =>
    have hx := hLi x (by simp)
    have hz := zz_range hx.1 hx.2
    have h10z := leb_length10 (v := (zz x).toNat) (by omega)
    have h0 : (0 : Nat) < (x :: r).length := by simp
    have hrd : rd (x :: r) 0 = x := rfl
    have hlen : ((x :: r).length : Int) = (r.length : Int) + 1 := by simp
    refine Ev.step (f := fun k => (estreatref01_Var.f k (zz x)).bind fun t => if (leb (x :: r).length).length + t.length < 140737488355328 then estreatref11_Put.l0 k l (x :: r) (leb (x :: r).length ++ t) ((0 + 1 : Nat) : Int) else none) (fun k => by
      simp only [estreatref11_Put.l0]
      rw [if_pos (by omega), if_pos trivial, if_pos (by omega), hrd, refzig_f hx.1 hx.2, Option.bind_some, w64 (n := (0 : Int) + 1) (by omega) (by omega)]
      rfl) ?_
    refine Ev.bind (refvar_ev hz.1 hz.2) ?_
    have i1 : (leb (x :: r).length).length + (leb (zz x).toNat).length < 140737488355328 := by omega
    simp only [if_pos i1]
    refine rput_l0 l (x :: r) hL hn hLi _ r.length 0 h0 _ (by simp only [List.length_cons]; omega) (by rw [List.length_append]; omega) ?_
    have e : leb (x :: r).length ++ formOf (x :: r) = leb (x :: r).length ++ leb (zz x).toNat ++ lebs (gaps x r) := by rw [formOf, List.append_assoc]
    show Ev (fun k => estreatref11_Put.l1 k l (x :: r) (leb (x :: r).length ++ leb (zz x).toNat ++ lebs (gaps x r)) [] 0) _
    rw [← e]
    exact hend

/-! texts: their order, the list of all that are there -/
def tb (s : ByteArray) : List UInt8 := s.data.toList
theorem tb_inj {a b : ByteArray} (h : tb a = tb b) : a = b := by
  cases a; cases b
  unfold tb at h
  simp only [ByteArray.mk.injEq]
  exact Array.toList_inj.1 h
theorem tb_toList (s : ByteArray) : s.toList = tb s := ByteArray.toList_eq s
def LT (a b : ByteArray) : Prop := tb a < tb b
theorem less_eq (a b : ByteArray) : Op.bytesLess a.toList b.toList = decide (tb a < tb b) := by rw [tb_toList, tb_toList, bytesLess_eq]
theorem bl_irrefl (a : List UInt8) : ¬ a < a := List.lt_irrefl a
theorem bl_trans {a b c : List UInt8} (h1 : a < b) (h2 : b < c) : a < c := List.lt_trans h1 h2
theorem bl_tri (a b : List UInt8) : a < b ∨ a = b ∨ b < a := by
  by_cases h : a < b
  · exact .inl h
  · by_cases h2 : b < a
    · exact .inr (.inr h2)
    · exact .inr (.inl (List.le_antisymm (List.not_lt.1 h2) (List.not_lt.1 h)))
theorem bl_le {a b : List UInt8} : a ≤ b ↔ ¬ b < a := Iff.rfl
theorem LT.ne {a b : ByteArray} (h : LT a b) : a ≠ b := fun e => by subst e; exact bl_irrefl _ h
theorem LT.asymm {a b : ByteArray} (h : LT a b) : ¬ LT b a := fun h2 => bl_irrefl _ (bl_trans h h2)
theorem LT.trans {a b c : ByteArray} (h : LT a b) (h2 : LT b c) : LT a c := bl_trans h h2
theorem LT.tri (a b : ByteArray) : LT a b ∨ a = b ∨ LT b a := (bl_tri (tb a) (tb b)).imp_right (fun h => h.imp_left tb_inj)
theorem tarr_get (zs : List (List UInt8)) (j : Nat) (h : j < zs.length) : zs.toArray[j]! = zs[j] := by simp [getElem!_pos, h]
theorem tfirst_kept (zs : List (List UInt8)) (x : List UInt8) : ∀ j, j < zs.length → zs.toArray[j]! = x → ∃ i, i < zs.length ∧ zs.toArray[i]! = x ∧ Go.Lib.keeps zs.toArray i = true := by
  intro j
  induction j with
  | zero => intro h e; exact ⟨0, h, e, Go.Lib.keeps_lt_one _ 0 (by decide)⟩
  | succ j ih =>
    intro h e
    by_cases hp : zs.toArray[j]! = x
    · exact ih (by omega) hp
    · refine ⟨j + 1, h, e, Go.Lib.keeps_pos ?_⟩
      rw [e, Nat.add_sub_cancel]; exact fun h => hp h.symm
theorem tcompact_mem (zs : List (List UInt8)) (x : List UInt8) : x ∈ Go.Lib.compact zs ↔ x ∈ zs := by
  unfold Go.Lib.compact Go.Lib.compactUpTo
  simp only [List.mem_map, List.mem_filter, List.mem_range]
  constructor
  · rintro ⟨j, ⟨hj, _⟩, rfl⟩
    rw [tarr_get zs j hj]; exact List.getElem_mem hj
  · intro hx
    obtain ⟨j, hj, hx⟩ := List.getElem_of_mem hx
    obtain ⟨i, h1, h2, h3⟩ := tfirst_kept zs x j hj (by rw [tarr_get zs j hj]; exact hx)
    exact ⟨i, ⟨h1, h3⟩, h2⟩
theorem tcompact_lt (zs : List (List UInt8)) (hs : zs.Pairwise (fun x y => x ≤ y)) : (Go.Lib.compact zs).Pairwise (fun x y => x < y) := by
  unfold Go.Lib.compact Go.Lib.compactUpTo
  rw [List.pairwise_map]
  have hr : (List.range zs.length).Pairwise (fun x y => x < y) := List.pairwise_lt_range
  refine (hr.filter _).imp_of_mem ?_
  intro a b ha hb hab
  simp only [List.mem_filter, List.mem_range] at ha hb
  have hle := List.pairwise_iff_getElem.1 hs
  have hk : ¬ zs.toArray[b]! = zs.toArray[b - 1]! := by
    intro e
    have := Go.Lib.keeps_neg (by omega) e
    rw [hb.2] at this; cases this
  rw [tarr_get zs b hb.1, tarr_get zs (b - 1) (by omega)] at hk
  rw [tarr_get zs b hb.1, tarr_get zs a ha.1]
  have h1 := hle (b - 1) b (by omega) hb.1 (by omega)
  have h3 : zs[b - 1]'(by omega) < zs[b] := by
    rcases bl_tri (zs[b - 1]'(by omega)) zs[b] with h | h | h
    · exact h
    · exact absurd h.symm hk
    · exact absurd h (bl_le.1 h1)
  by_cases e : a = b - 1
  · subst e; exact h3
  · have h2 := hle a (b - 1) ha.1 (by omega) (by omega)
    rcases bl_tri zs[a] (zs[b - 1]'(by omega)) with h | h | h
    · exact bl_trans h h3
    · rw [h]; exact h3
    · exact absurd h (bl_le.1 h2)
theorem tsorted_le (l : List (List UInt8)) : (l.mergeSort fun x y => decide (x ≤ y)).Pairwise (fun x y => x ≤ y) := by
  have := List.pairwise_mergeSort (le := fun (x y : List UInt8) => decide (x ≤ y)) (fun a b c h1 h2 => by
    simp only [decide_eq_true_eq] at *
    intro h
    rcases bl_tri a b with h3 | h3 | h3
    · exact h2 (bl_trans h h3)
    · subst h3; exact h2 h
    · exact h1 h3) (fun a b => by
    simp only [Bool.or_eq_true, decide_eq_true_eq]
    rcases bl_tri a b with h | h | h
    · exact .inl (fun h2 => bl_irrefl _ (bl_trans h h2))
    · exact .inl (by subst h; exact bl_irrefl a)
    · exact .inr (fun h2 => bl_irrefl _ (bl_trans h h2))) l
  exact this.imp (fun h => by simpa using h)
def tl (l : List ByteArray) : List ByteArray := texts_List.bs (Go.Lib.compact (texts_List.srt l))
def Asc (l : List ByteArray) : Prop := l.Pairwise LT
theorem tb_mk (x : List UInt8) : tb ⟨x.toArray⟩ = x := rfl
theorem tl_asc (l : List ByteArray) : Asc (tl l) := by
  unfold Asc tl texts_List.bs
  rw [List.pairwise_map]
  exact (tcompact_lt _ (tsorted_le (texts_List.ls l))).imp (fun h => h)
theorem tl_mem (l : List ByteArray) (x : ByteArray) : x ∈ tl l ↔ x ∈ l := by
  unfold tl texts_List.bs
  rw [List.mem_map]
  have hm : ∀ y, y ∈ Go.Lib.compact (texts_List.srt l) ↔ y ∈ texts_List.ls l := fun y => by
    rw [tcompact_mem]; exact (List.mergeSort_perm _ _).mem_iff
  constructor
  · rintro ⟨y, hy, rfl⟩
    obtain ⟨z, hz, rfl⟩ := List.mem_map.1 ((hm y).1 hy)
    have : z = (⟨z.data.toList.toArray⟩ : ByteArray) := tb_inj rfl
    rwa [← this]
  · intro hx
    exact ⟨tb x, (hm _).2 (List.mem_map.2 ⟨x, hx, rfl⟩), tb_inj rfl⟩
theorem tl_len (l : List ByteArray) : (tl l).length ≤ l.length := by
  have h1 := Go.Lib.compact_length_le (texts_List.srt l)
  have h2 : (texts_List.srt l).length = l.length := by unfold texts_List.srt texts_List.ls; rw [List.length_mergeSort, List.length_map]
  unfold tl texts_List.bs
  rw [List.length_map]; omega
theorem asc_ext : ∀ (a b : List ByteArray), Asc a → Asc b → (∀ x, x ∈ a ↔ x ∈ b) → a = b := by
  intro a
  induction a with
  | nil =>
    intro b _ _ h
    cases b with
    | nil => rfl
    | cons y b => exact absurd ((h y).2 (by simp)) (by simp)
  | cons x a ih =>
    intro b ha hb h
    cases b with
    | nil => exact absurd ((h x).1 (by simp)) (by simp)
    | cons y b =>
      obtain ⟨a1, a2⟩ := List.pairwise_cons.1 ha
      obtain ⟨b1, b2⟩ := List.pairwise_cons.1 hb
      have hxy : x = y := by
        rcases List.mem_cons.1 ((h x).1 (by simp)) with e | e
        · exact e
        · rcases List.mem_cons.1 ((h y).2 (by simp)) with e2 | e2
          · exact e2.symm
          · exact absurd (b1 x e) (LT.asymm (a1 y e2))
      subst hxy
      rw [ih b a2 b2 (fun z => ?_)]
      constructor
      · intro hz
        rcases List.mem_cons.1 ((h z).1 (by simp [hz])) with e | e
        · exact absurd e.symm (LT.ne (a1 z hz))
        · exact e
      · intro hz
        rcases List.mem_cons.1 ((h z).2 (by simp [hz])) with e | e
        · exact absurd e.symm (LT.ne (b1 z hz))
        · exact e
theorem tl_eq {l L : List ByteArray} (h1 : Asc L) (h2 : ∀ x, x ∈ L ↔ x ∈ l) : tl l = L := asc_ext _ _ (tl_asc l) h1 (fun x => by rw [tl_mem, h2])
theorem tl_f {l : List ByteArray} (h : l.length ≤ 1000000) : texts_List.f l = some (tl l) := by unfold texts_List.f; rw [if_pos (by omega)]; rfl
theorem rdo_get {xs : List ByteArray} {i : Nat} (h : i < xs.length) : rdOf ByteArray.empty xs (i : Int) = xs[i] := by simp [rdOf, h]
theorem nx {i : Nat} (h : i < 9223372036854775807) : wrap64 ((i : Int) + 1) = ((i + 1 : Nat) : Int) := by rw [w64 (by omega) (by omega)]; omega
theorem asc_at {L : List ByteArray} (hL : Asc L) {i j : Nat} (hj : j < L.length) (h : i < j) : LT (L[i]'(by omega)) L[j] := List.pairwise_iff_getElem.1 hL i j (by omega) hj h
theorem asc_inj {L : List ByteArray} (hL : Asc L) {i j : Nat} (hi : i < L.length) (hj : j < L.length) (h : L[i] = L[j]) : i = j := by
  rcases Nat.lt_trichotomy i j with c | c | c
  · exact absurd h (LT.ne (asc_at hL hj c))
  · exact c
  · exact absurd h.symm (LT.ne (asc_at hL hi c))
/-! estreatref13: Place, Same, Great -/
def pl (s : ByteArray) : List ByteArray → Nat × Bool
  | [] => (0, false)
  | y :: ys => if tb y < tb s then ((pl s ys).1 + 1, (pl s ys).2) else (0, tb y == tb s)
theorem pl_le (s : ByteArray) : ∀ X, (pl s X).1 ≤ X.length
  | [] => Nat.le_refl _
  | y :: ys => by
    rw [pl]
    split
    · exact Nat.succ_le_succ (pl_le s ys)
    · exact Nat.zero_le _
theorem pl_at (s : ByteArray) : ∀ X, Asc X → s ∈ X → X[(pl s X).1]? = some s := by
  intro X
  induction X with
  | nil => intro _ h; exact absurd h (by simp)
  | cons y ys ih =>
    intro hA h
    obtain ⟨a1, a2⟩ := List.pairwise_cons.1 hA
    rw [pl]
    by_cases e : y = s
    · subst e
      rw [if_neg (bl_irrefl _)]; rfl
    · have hm : s ∈ ys := by
        rcases List.mem_cons.1 h with h | h
        · exact absurd h.symm e
        · exact h
      have hlt : tb y < tb s := a1 s hm
      rw [if_pos hlt]
      show (y :: ys)[(pl s ys).1 + 1]? = some s
      rw [List.getElem?_cons_succ]
      exact ih a2 hm
theorem pl_get {s : ByteArray} {X : List ByteArray} (hA : Asc X) (h : s ∈ X) : ∃ hl : (pl s X).1 < X.length, X[(pl s X).1] = s := List.getElem?_eq_some_iff.1 (pl_at s X hA h)
theorem pl_iff (s : ByteArray) : ∀ X, Asc X → ∀ j (h : j < X.length), tb X[j] < tb s ↔ j < (pl s X).1 := by
  intro X
  induction X with
  | nil => intro _ j h; exact absurd h (Nat.not_lt_zero _)
  | cons y ys ih =>
    intro hA j h
    obtain ⟨a1, a2⟩ := List.pairwise_cons.1 hA
    rw [pl]
    by_cases c : tb y < tb s
    · rw [if_pos c]
      cases j with
      | zero => exact ⟨fun _ => Nat.succ_pos _, fun _ => c⟩
      | succ j =>
        have := ih a2 j (by simpa using h)
        simp only [List.getElem_cons_succ]
        rw [this]
        show j < _ ↔ j + 1 < (pl s ys).1 + 1
        omega
    · rw [if_neg c]
      refine ⟨fun h2 => absurd h2 ?_, fun h2 => absurd h2 (Nat.not_lt_zero _)⟩
      cases j with
      | zero => exact c
      | succ j =>
        simp only [List.getElem_cons_succ]
        intro h3
        exact c (bl_trans (a1 _ (List.getElem_mem (by simpa using h))) h3)
theorem pl_mem (s : ByteArray) : ∀ X, Asc X → ((pl s X).2 = true ↔ s ∈ X)
  | [], _ => by simp [pl]
  | y :: ys, hA => by
    obtain ⟨a1, a2⟩ := List.pairwise_cons.1 hA
    rw [pl]
    by_cases c : tb y < tb s
    · rw [if_pos c]
      show (pl s ys).2 = true ↔ _
      rw [pl_mem s ys a2, List.mem_cons]
      exact ⟨.inr, fun h => h.elim (fun e => absurd (e ▸ c) (bl_irrefl _)) id⟩
    · rw [if_neg c]
      show (tb y == tb s) = true ↔ _
      rw [beq_iff_eq, List.mem_cons]
      refine ⟨fun e => .inl (tb_inj e.symm), fun h => h.elim (fun e => by rw [e]) (fun h => absurd (a1 s h) c)⟩
def ins (s : ByteArray) (X : List ByteArray) : List ByteArray := if (pl s X).2 = true then X else X.take (pl s X).1 ++ [s] ++ X.drop (pl s X).1
theorem ins_cons_lt {s y : ByteArray} {ys : List ByteArray} (c : tb y < tb s) : ins s (y :: ys) = y :: ins s ys := by
  unfold ins
  rw [pl, if_pos c]
  show (if (pl s ys).2 = true then y :: ys else _) = _
  split
  · rfl
  · simp
theorem ins_mem (s : ByteArray) (X : List ByteArray) (hA : Asc X) (z : ByteArray) : z ∈ ins s X ↔ z = s ∨ z ∈ X := by
  unfold ins
  by_cases c : (pl s X).2 = true
  · rw [if_pos c]
    have := (pl_mem s X hA).1 c
    exact ⟨.inr, fun h => h.elim (fun e => by rw [e]; exact this) id⟩
  · rw [if_neg c]
    rw [show (z = s ∨ z ∈ X) ↔ (z = s ∨ z ∈ X.take (pl s X).1 ++ X.drop (pl s X).1) from by rw [List.take_append_drop]]
    simp only [List.mem_append, List.mem_singleton]
    constructor
    · rintro ((h | h) | h)
      · exact .inr (.inl h)
      · exact .inl h
      · exact .inr (.inr h)
    · rintro (h | h | h)
      · exact .inl (.inr h)
      · exact .inl (.inl h)
      · exact .inr h
theorem ins_asc (s : ByteArray) : ∀ X, Asc X → Asc (ins s X)
  | [], _ => by unfold ins Asc; simp [pl]
  | y :: ys, hA => by
    obtain ⟨a1, a2⟩ := List.pairwise_cons.1 hA
    by_cases c : tb y < tb s
    · rw [ins_cons_lt c]
      refine List.pairwise_cons.2 ⟨fun z hz => ?_, ins_asc s ys a2⟩
      rcases (ins_mem s ys a2 z).1 hz with rfl | hz
      · exact c
      · exact a1 z hz
    · unfold ins
      rw [pl, if_neg c]
      show Asc (if (tb y == tb s) = true then y :: ys else _)
      by_cases e : (tb y == tb s) = true
      · rw [if_pos e]; exact hA
      · rw [if_neg e]
        have hlt : LT s y := by
          rcases bl_tri (tb s) (tb y) with h | h | h
          · exact h
          · exact absurd (by rw [h]; simp) e
          · exact absurd h c
        show List.Pairwise LT (s :: y :: ys)
        refine List.pairwise_cons.2 ⟨fun z hz => ?_, hA⟩
        rcases List.mem_cons.1 hz with rfl | hz
        · exact hlt
        · exact hlt.trans (a1 z hz)
theorem tl_snoc (a : List ByteArray) (x : ByteArray) : tl (a ++ [x]) = ins x (tl a) := by
  refine tl_eq (ins_asc x _ (tl_asc a)) (fun z => ?_)
  rw [ins_mem _ _ (tl_asc a), tl_mem]
  simp only [List.mem_append, List.mem_singleton]
  exact ⟨fun h => h.symm, fun h => h.symm⟩
theorem tl_nil : tl [] = [] := tl_eq List.Pairwise.nil (fun x => Iff.rfl)

/-! estreatref13.Place -/
theorem place_l0 (X : List ByteArray) (s : ByteArray) (hX : X.length ≤ 1000000) : ∀ (d j : Nat), X.length = j + d → Ev (fun k => estreatref13_Place.l0 k X s j) (((j + (pl s (X.drop j)).1 : Nat) : Int), (pl s (X.drop j)).2) := by
  intro d
  induction d with
  | zero =>
    intro j hd
    rw [List.drop_of_length_le (by omega)]
    exact Ev.step (f := fun _ => some ((j : Int), false)) (fun k => by simp only [estreatref13_Place.l0]; rw [if_neg (by omega)]) (Ev.now _)
  | succ d ih =>
    intro j hd
    have hj : j < X.length := by omega
    rw [dropc X j hj, pl]
    by_cases c : tb X[j] < tb s
    · rw [if_pos c]
      have hn := ih (j + 1) (by omega)
      rw [show j + 1 + (pl s (X.drop (j + 1))).1 = j + ((pl s (X.drop (j + 1))).1 + 1) by omega] at hn
      refine Ev.step (fun k => ?_) hn
      simp only [estreatref13_Place.l0]
      rw [if_pos (Int.ofNat_lt.2 hj), if_pos (Int.natCast_nonneg _), rdo_get hj, less_eq, decide_eq_true c, if_pos rfl, nx (by omega)]
    · rw [if_neg c]
      refine Ev.step (f := fun _ => some ((j : Int), tb X[j] == tb s)) (fun k => ?_) (Ev.now _)
      simp only [estreatref13_Place.l0]
      rw [if_pos (Int.ofNat_lt.2 hj), if_pos (Int.natCast_nonneg _), rdo_get hj, less_eq, decide_eq_false c, if_neg (by decide), tb_toList, tb_toList]
theorem place_f (X : List ByteArray) (s : ByteArray) (hX : X.length ≤ 1000000) : Ev (fun k => estreatref13_Place.f k X s) (((pl s X).1 : Int), (pl s X).2) := by
  unfold estreatref13_Place.f
  have := place_l0 X s hX X.length 0 (by omega)
  simpa using this

/-! texts.Put -/
def blob (s : ByteArray) : List Int := leb s.size ++ num_PutBlobS.bs s
def blobs : List ByteArray → List Int
  | [] => []
  | s :: r => blob s ++ blobs r
def tplaces (L l : List ByteArray) : List Int := l.map (fun s => (((pl s L).1 : Nat) : Int))
def textOf (l : List ByteArray) : List Int := leb (tl l).length ++ blobs (tl l) ++ [(wd (tl l).length : Int)] ++ (packed (tplaces (tl l) l) (wd (tl l).length)).1
theorem blob_len {s : ByteArray} (h : s.size ≤ 65536) : (blob s).length ≤ 70000 := by
  have h10 := leb_length10 (v := s.size) (by omega)
  unfold blob
  rw [List.length_append, num_PutBlobS.bs_length]; omega
theorem blobs_len : ∀ (L : List ByteArray), (∀ s ∈ L, s.size ≤ 65536) → (blobs L).length ≤ 70000 * L.length
  | [], _ => Nat.zero_le _
  | s :: r, h => by
    have h1 := blob_len (h s (by simp))
    have h2 := blobs_len r (fun x hx => h x (by simp [hx]))
    rw [blobs, List.length_append, List.length_cons]; omega
theorem putblob_ev {b : List Int} {s : ByteArray} (hb : b.length ≤ 5000000000) (hs : s.size ≤ 65536) : Ev (fun k => num_PutBlobS.f k b s) (b ++ blob s) := by
  unfold num_PutBlobS.f num_PutBlob.f blob
  have hl := num_PutBlobS.bs_length s
  have h10 := leb_length10 (v := s.size) (by omega)
  have e : IntKind.u64.wrap ((num_PutBlobS.bs s).length : Int) = (s.size : Int) := by rw [hl, u64w_id (by omega) (by omega)]
  rw [e]
  have hp := putvar_ev (b := b) (v := (s.size : Int)) (by omega) (by omega) (by omega)
  rw [Int.toNat_natCast] at hp
  refine Ev.bind hp ?_
  have c : (b ++ leb s.size).length + (num_PutBlobS.bs s).length < 140737488355328 := by rw [List.length_append, hl]; omega
  simp only [if_pos c, List.append_assoc]
  exact Ev.now _
theorem texts_width_f (n : Nat) (hn : n ≤ 65536) : texts_width.f (n : Int) = some (wd n : Int) := by
  have e : IntKind.u64.wrap (mx (wrap64 ((n : Int) - 1)) 0) = ((n - 1 : Nat) : Int) := by
    rw [w64 (by omega) (by omega)]
    unfold mx
    split <;> (rw [u64w_id (by omega) (by omega)]; omega)
  unfold texts_width.f bits_Len.f wd
  rw [e, if_pos (Int.natCast_nonneg _), if_pos (by omega), Option.bind_some, Int.toNat_natCast]
theorem tplaces_len (L l : List ByteArray) : (tplaces L l).length = l.length := by simp [tplaces]
theorem tplaces_fit {L l : List ByteArray} (hL : Asc L) (hm : ∀ x ∈ l, x ∈ L) (hn : L.length ≤ 65536) : (∀ x ∈ tplaces L l, 0 ≤ x ∧ x < 18446744073709551616) ∧ fitAll (tplaces L l) (wd L.length) := by
  constructor
  · intro x hx
    obtain ⟨y, hy, rfl⟩ := List.mem_map.1 hx
    obtain ⟨h1, _⟩ := pl_get hL (hm y hy)
    omega
  · intro x hx
    obtain ⟨y, hy, rfl⟩ := List.mem_map.1 hx
    obtain ⟨h1, _⟩ := pl_get hL (hm y hy)
    have h2 := bitlen_lt (Nat.le_refl (Lib.bitLen (L.length - 1))) (by omega)
    rw [Int.toNat_natCast]
    exact Nat.lt_of_le_of_lt (by omega) h2
theorem tplaces_ok {L l : List ByteArray} (hL : Asc L) (hm : ∀ x ∈ l, x ∈ L) (hn : L.length ≤ 65536) (hl : l.length ≤ 65536) : (packed (tplaces L l) (wd L.length)).2 = 0 ∧ (packed (tplaces L l) (wd L.length)).1.length ≤ 8 * l.length + 1 := by
  have oa : okSize ((tplaces L l).length : Int) ((wd L.length : Nat) : Int) := ⟨by omega, by rw [tplaces_len]; omega, by omega, by have := wd_64 L.length hn; omega⟩
  unfold packed
  rw [if_pos oa, Int.toNat_natCast, if_pos (tplaces_fit hL hm hn).2]
  refine ⟨rfl, ?_⟩
  show (digs _ _).length ≤ _
  rw [digs_length, tplaces_len]
  have : l.length * wd L.length ≤ l.length * 64 := Nat.mul_le_mul_left _ (wd_64 _ hn)
  unfold sizeN; omega
theorem nan_f (s : ByteArray) : cmp_isNaN_string.f s = some false := by unfold cmp_isNaN_string.f; simp
theorem cless_f (a b : ByteArray) : cmp_Less_string.f a b = some (decide (tb a < tb b)) := by
  unfold cmp_Less_string.f
  rw [nan_f, Option.bind_some, if_neg (by decide), less_eq]
theorem bs_l0 (X : List ByteArray) (s : ByteArray) (hA : Asc X) (hm : s ∈ X) (hX : X.length ≤ 1000000) :
    ∀ (d lo hi : Nat), hi - lo ≤ d → lo ≤ (pl s X).1 → (pl s X).1 ≤ hi → hi ≤ X.length → Ev (fun k => slices_BinarySearch_string_string.l0 k X s X.length lo hi) (((pl s X).1 : Int), true) := by
  obtain ⟨hi1, he⟩ := pl_get hA hm
  intro d
  induction d with
  | zero =>
    intro lo hi hd h1 h2 h3
    have e : lo = (pl s X).1 := by omega
    refine Ev.step (f := fun _ => some (((pl s X).1 : Int), true)) (fun k => ?_) (Ev.now _)
    simp only [slices_BinarySearch_string_string.l0]
    rw [if_neg (by omega), e, if_pos (Int.ofNat_lt.2 hi1), if_pos (Int.natCast_nonneg _), if_pos (Int.ofNat_lt.2 hi1), rdo_get hi1, he, if_pos rfl]
  | succ d ih =>
    intro lo hi hd h1 h2 h3
    by_cases c : lo < hi
    · have em : wrap64 ((IntKind.u64.wrap (wrap64 ((lo : Int) + (hi : Int)))) / 2) = (((lo + hi) / 2 : Nat) : Int) := by
        rw [w64 (n := (lo : Int) + hi) (by omega) (by omega), u64w_id (by omega) (by omega), w64 (by omega) (by omega)]; omega
      have hmid : (lo + hi) / 2 < X.length := by omega
      have hiff := pl_iff s X hA ((lo + hi) / 2) hmid
      by_cases c2 : tb X[(lo + hi) / 2] < tb s
      · have h4 := hiff.1 c2
        refine Ev.step (fun k => ?_) (ih ((lo + hi) / 2 + 1) hi (by omega) (by omega) h2 h3)
        simp only [slices_BinarySearch_string_string.l0]
        rw [if_pos (Int.ofNat_lt.2 c), em, if_pos (Int.natCast_nonneg _), if_pos (Int.ofNat_lt.2 hmid), rdo_get hmid, cless_f, decide_eq_true c2, Option.bind_some, if_pos rfl, nx (by omega)]
      · have h4 : ¬ (lo + hi) / 2 < (pl s X).1 := fun h => c2 (hiff.2 h)
        refine Ev.step (fun k => ?_) (ih lo ((lo + hi) / 2) (by omega) h1 (by omega) (by omega))
        simp only [slices_BinarySearch_string_string.l0]
        rw [if_pos (Int.ofNat_lt.2 c), em, if_pos (Int.natCast_nonneg _), if_pos (Int.ofNat_lt.2 hmid), rdo_get hmid, cless_f, decide_eq_false c2, Option.bind_some, if_neg (by decide)]
    · exact ih lo hi (by omega) h1 h2 h3
theorem bs_f (X : List ByteArray) (s : ByteArray) (hA : Asc X) (hm : s ∈ X) (hX : X.length ≤ 1000000) : Ev (fun k => slices_BinarySearch_string_string.f k X s) (((pl s X).1 : Int), true) := by
  unfold slices_BinarySearch_string_string.f
  obtain ⟨h, _⟩ := pl_get hA hm
  exact bs_l0 X s hA hm hX X.length 0 X.length (by omega) (Nat.zero_le _) (by omega) (Nat.le_refl _)
theorem tput_l1 (l L : List ByteArray) (b : List Int) (hL : Asc L) (hm : ∀ x ∈ l, x ∈ L) (hn : L.length ≤ 65536) (hl : l.length ≤ 65536) (hb : b.length ≤ 5000000000) :
    ∀ (d i : Nat), l.length = i + d → Ev (fun k => texts_Put.l1 k L b ((tplaces L l).take i) l l.length i) (b ++ [(wd L.length : Int)] ++ (packed (tplaces L l) (wd L.length)).1, 0) := by
  intro d
  induction d with
  | zero =>
    intro i hd
    obtain ⟨p1, p2⟩ := tplaces_ok hL hm hn hl
    have hw := wd_64 L.length hn
    rw [List.take_of_length_le (by rw [tplaces_len]; omega)]
    refine Ev.step (f := fun k => _) (fun k => by
      simp only [texts_Put.l1]
      rw [if_neg (by omega), texts_width_f _ hn, Option.bind_some]) ?_
    refine Ev.bind (pack_f (tplaces L l) _ (tplaces_fit hL hm hn).1) ?_
    have i1 : b.length < 140737488355328 := by omega
    have i2 : (b ++ [(wd L.length : Int)]).length + (packed (tplaces L l) ((wd L.length : Nat) : Int)).1.length < 140737488355328 := by rw [List.length_append, List.length_singleton]; omega
    have i3 : ((wd L.length : Nat) : Int) % 256 = (wd L.length : Int) := by omega
    simp only [i3, if_pos i1, Option.bind_some, if_pos i2, p1]
    exact Ev.now _
  | succ d ih =>
    intro i hd
    have hi : i < l.length := by omega
    have hx := hm _ (List.getElem_mem hi)
    obtain ⟨hp, _⟩ := pl_get hL hx
    have e : (tplaces L l).take (i + 1) = (tplaces L l).take i ++ [(((pl l[i] L).1 : Nat) : Int)] := by
      rw [List.take_succ_eq_append_getElem (by rw [tplaces_len]; exact hi)]
      congr 2
      simp [tplaces]
    have hn2 := ih (i + 1) (by omega)
    rw [e] at hn2
    have c : ((tplaces L l).take i).length < 17592186044416 := len_ok (by rw [List.length_take, tplaces_len]; omega)
    refine Ev.step (f := fun k => (slices_BinarySearch_string_string.f k L l[i]).bind fun bt => if ((tplaces L l).take i).length < 17592186044416 then texts_Put.l1 k L b ((tplaces L l).take i ++ [IntKind.u64.wrap bt.1]) l l.length ((i + 1 : Nat) : Int) else none) (fun k => by
      simp only [texts_Put.l1]
      rw [if_pos (Int.ofNat_lt.2 hi), if_pos (Int.natCast_nonneg _), if_pos (Int.ofNat_lt.2 hi), rdo_get hi, nx (by omega)]) ?_
    refine Ev.bind (bs_f L l[i] hL hx (by omega)) ?_
    simp only [if_pos c, u64w_nat hp hn]
    exact hn2
theorem tput_l0 (l L : List ByteArray) (hn : L.length ≤ 65536) (hs : ∀ s ∈ L, s.size ≤ 65536) (res : List Int × Int) :
    ∀ (d j : Nat) (b : List Int), L.length = j + d → b.length ≤ 10 + 70000 * j → Ev (fun k => texts_Put.l1 k L (b ++ blobs (L.drop j)) [] l l.length 0) res → Ev (fun k => texts_Put.l0 k l L b L L.length j) res := by
  intro d
  induction d with
  | zero =>
    intro j b hd hb h
    rw [List.drop_of_length_le (by omega), blobs, List.append_nil] at h
    refine Ev.step (fun k => ?_) h
    simp only [texts_Put.l0]
    rw [if_neg (by omega)]
  | succ d ih =>
    intro j b hd hb h
    have hj : j < L.length := by omega
    have hsz := hs _ (List.getElem_mem hj)
    have hbl := blob_len hsz
    rw [dropc L j hj, blobs, ← List.append_assoc] at h
    have hn2 := ih (j + 1) (b ++ blob L[j]) (by omega) (by rw [List.length_append]; omega) h
    refine Ev.step (f := fun k => (num_PutBlobS.f k b L[j]).bind fun t => texts_Put.l0 k l L t L L.length ((j + 1 : Nat) : Int)) (fun k => by
      simp only [texts_Put.l0]
      rw [if_pos (Int.ofNat_lt.2 hj), if_pos (Int.natCast_nonneg _), if_pos (Int.ofNat_lt.2 hj), rdo_get hj, nx (by omega)]) ?_
    exact Ev.bind (putblob_ev (by omega) hsz) hn2
theorem long_f {l : List ByteArray} (hs : ∀ s ∈ l, s.size ≤ 65536) : slices_ContainsFunc_string_string.f l = some false := by
  unfold slices_ContainsFunc_string_string.f
  congr 1
  rw [List.any_eq_false]
  intro x hx
  have := hs x hx
  unfold slices_IndexFunc_string_string.p
  simp; omega
theorem textput_f (l : List ByteArray) (hl : l.length ≤ 65536) (hs : ∀ s ∈ l, s.size ≤ 65536) : Ev (fun k => texts_Put.f k l) (textOf l, 0) := by
  unfold texts_Put.f textOf
  have c : ¬ (l.length : Int) > 65536 := by omega
  simp only [if_neg c]
  rw [long_f hs]
  refine Ev.bind (Ev.now _) ?_
  have hL := tl_asc l
  have hn : (tl l).length ≤ 65536 := Nat.le_trans (tl_len l) hl
  have hLs : ∀ x ∈ tl l, x.size ≤ 65536 := fun x hx => hs x ((tl_mem l x).1 hx)
  have hm : ∀ x ∈ l, x ∈ tl l := fun x hx => (tl_mem l x).2 hx
  have e0 : IntKind.u64.wrap ((tl l).length : Int) = ((tl l).length : Int) := u64w_id (by omega) (by omega)
  have hp0 := putvar_ev (b := []) (v := ((tl l).length : Int)) (by omega) (by omega) (by decide)
  rw [Int.toNat_natCast, List.nil_append] at hp0
  refine Ev.step (f := fun k => (some (tl l)).bind fun t => (num_PutVar.f k ([] : List Int) (IntKind.u64.wrap (t.length : Int))).bind fun b => texts_Put.l0 k l t b t (t.length : Int) 0) (fun k => by
    simp only [texts_Put.j0]
    rw [if_neg (by decide), tl_f (by omega)]) ?_
  refine Ev.bind (Ev.now _) ?_
  rw [e0]
  refine Ev.bind hp0 ?_
  have h10 := leb_length10 (v := (tl l).length) (by omega)
  have hbl := blobs_len (tl l) hLs
  have hend := tput_l1 l (tl l) (leb (tl l).length ++ blobs (tl l)) hL hm hn hl (by rw [List.length_append]; omega) l.length 0 (by omega)
  rw [List.take_zero] at hend
  exact tput_l0 l (tl l) hn hLs _ (tl l).length 0 _ (by omega) (by omega) hend
theorem tl_bab : tl [(⟨#[98]⟩ : ByteArray), ⟨#[97]⟩, ⟨#[98]⟩] = [⟨#[97]⟩, ⟨#[98]⟩] := tl_eq (List.pairwise_cons.2 ⟨fun z hz => by
  rw [List.mem_singleton.1 hz]; show ([97] : List UInt8) < [98]; decide, List.pairwise_singleton _ _⟩) (fun x => by
  simp only [List.mem_cons, List.not_mem_nil, or_false]
  exact ⟨fun h => h.elim (fun h => .inr (.inl h)) .inl, fun h => h.elim .inr (fun h => h.elim .inl .inr)⟩)
theorem textawake_eq : textOf [(⟨#[98]⟩ : ByteArray), ⟨#[97]⟩, ⟨#[98]⟩] = [2, 1, 97, 1, 98, 1, 5] := by
  have h3 : wd 2 = 1 := by decide
  have h4 : packed (tplaces [(⟨#[97]⟩ : ByteArray), ⟨#[98]⟩] [⟨#[98]⟩, ⟨#[97]⟩, ⟨#[98]⟩]) ((1 : Nat) : Int) = ([5], 0) := by decide
  have h5 : blobs [(⟨#[97]⟩ : ByteArray), ⟨#[98]⟩] = [1, 97, 1, 98] := by
    show (leb 1 ++ [97]) ++ ((leb 1 ++ [98]) ++ []) = _
    rw [leb_small (by decide)]; decide
  unfold textOf
  rw [tl_bab]
  show leb 2 ++ blobs [(⟨#[97]⟩ : ByteArray), ⟨#[98]⟩] ++ [((wd 2 : Nat) : Int)] ++ (packed (tplaces [(⟨#[97]⟩ : ByteArray), ⟨#[98]⟩] [⟨#[98]⟩, ⟨#[97]⟩, ⟨#[98]⟩]) ((wd 2 : Nat) : Int)).1 = _
  rw [h3, h4, h5, leb_small (by decide)]; decide
/-! estreatref13.List; estreatref11.Width -/
theorem treflist_l0 (l : List ByteArray) (hl : l.length ≤ 1000000) : ∀ (d i : Nat), l.length = i + d → Ev (fun k => estreatref13_List.l0 k l (tl (l.take i)) i) (tl l) := by
  intro d
  induction d with
  | zero =>
    intro i hd
    rw [List.take_of_length_le (by omega)]
    exact Ev.step (f := fun _ => some (tl l)) (fun k => by simp only [estreatref13_List.l0]; rw [if_neg (by omega)]) (Ev.now _)
  | succ d ih =>
    intro i hd
    have hi : i < l.length := by omega
    have hlen := tl_len (l.take i)
    rw [List.length_take] at hlen
    have hn := ih (i + 1) (by omega)
    rw [List.take_succ_eq_append_getElem hi, tl_snoc] at hn
    generalize tl (l.take i) = X at hn hlen ⊢
    have hple := pl_le l[i] X
    unfold ins at hn
    refine Ev.step (f := fun k => _) (fun k => by
      simp only [estreatref13_List.l0]
      rw [if_pos (Int.ofNat_lt.2 hi), if_pos (Int.natCast_nonneg _), rdo_get hi, nx (by omega)]) ?_
    refine Ev.bind (place_f X l[i] (by omega)) ?_
    by_cases c : (pl l[i] X).2 = true
    · rw [if_pos c] at hn
      simp only [if_pos c]
      exact hn
    · rw [if_neg c] at hn
      have c1 : (0 : Int) ≤ ((pl l[i] X).1 : Int) := Int.natCast_nonneg _
      have c2 : ((pl l[i] X).1 : Int) ≤ (X.length : Int) := Int.ofNat_le.2 hple
      have c3 : ([] : List ByteArray).length + (X.take (pl l[i] X).1).length < 8796093022208 := by rw [List.length_take]; simp; omega
      have c4 : ([] ++ X.take (pl l[i] X).1).length < 8796093022208 := by rw [List.nil_append, List.length_take]; omega
      have c5 : ([] ++ X.take (pl l[i] X).1 ++ [l[i]]).length + (X.drop (pl l[i] X).1).length < 8796093022208 := by
        simp only [List.nil_append, List.length_append, List.length_take, List.length_singleton, List.length_drop]; omega
      simp only [if_neg c, Option.bind_some, if_pos c1, if_pos c2, Int.toNat_natCast, if_pos c3, if_pos c4, if_pos c5]
      exact hn
theorem treflist_f (l : List ByteArray) (hl : l.length ≤ 1000000) : Ev (fun k => estreatref13_List.f k l) (tl l) := by
  unfold estreatref13_List.f
  have := treflist_l0 l hl l.length 0 (by omega)
  rw [List.take_zero, tl_nil] at this
  exact this
/-! estreatref13.Put -/
theorem refblob_ev {s : ByteArray} (hs : s.size ≤ 65536) : Ev (fun k => estreatref01_BlobS.f k s) (blob s) := by
  unfold estreatref01_BlobS.f estreatref01_Blob.f blob
  have hl := estreatref01_BlobS.bs_length s
  have h10 := leb_length10 (v := s.size) (by omega)
  have e : IntKind.u64.wrap ((estreatref01_BlobS.bs s).length : Int) = (s.size : Int) := by rw [hl, u64w_id (by omega) (by omega)]
  rw [e]
  have hp := refvar_ev (v := (s.size : Int)) (by omega) (by omega)
  rw [Int.toNat_natCast] at hp
  refine Ev.bind hp ?_
  have c : (leb s.size).length + (estreatref01_BlobS.bs s).length < 140737488355328 := by rw [hl]; omega
  simp only [if_pos c]
  exact Ev.now _
theorem trput_l1 (l L : List ByteArray) (b : List Int) (hL : Asc L) (hm : ∀ x ∈ l, x ∈ L) (hn : L.length ≤ 65536) (hl : l.length ≤ 65536) (hb : b.length ≤ 5000000000) :
    ∀ (d i : Nat), l.length = i + d → Ev (fun k => estreatref13_Put.l1 k l L b ((tplaces L l).take i) i) (b ++ [(wd L.length : Int)] ++ (packed (tplaces L l) (wd L.length)).1) := by
  intro d
  induction d with
  | zero =>
    intro i hd
    obtain ⟨p1, p2⟩ := tplaces_ok hL hm hn hl
    have hw := wd_64 L.length hn
    rw [List.take_of_length_le (by rw [tplaces_len]; omega)]
    refine Ev.step (f := fun k => _) (fun k => by
      simp only [estreatref13_Put.l1]
      rw [if_neg (by omega)]) ?_
    refine Ev.bind (refwd_f L.length hn) ?_
    refine Ev.bind (refpack_f (tplaces L l) _ (tplaces_fit hL hm hn).1) ?_
    have i1 : b.length < 140737488355328 := by omega
    have i2 : (b ++ [(wd L.length : Int)]).length + (packed (tplaces L l) ((wd L.length : Nat) : Int)).1.length < 140737488355328 := by rw [List.length_append, List.length_singleton]; omega
    have i3 : ((wd L.length : Nat) : Int) % 256 = (wd L.length : Int) := by omega
    simp only [i3, if_pos i1, Option.bind_some, if_pos i2]
    exact Ev.now _
  | succ d ih =>
    intro i hd
    have hi : i < l.length := by omega
    have hx := hm _ (List.getElem_mem hi)
    obtain ⟨hp, _⟩ := pl_get hL hx
    have e : (tplaces L l).take (i + 1) = (tplaces L l).take i ++ [(((pl l[i] L).1 : Nat) : Int)] := by
      rw [List.take_succ_eq_append_getElem (by rw [tplaces_len]; exact hi)]
      congr 2
      simp [tplaces]
    have hn2 := ih (i + 1) (by omega)
    rw [e] at hn2
    have c : ((tplaces L l).take i).length < 17592186044416 := len_ok (by rw [List.length_take, tplaces_len]; omega)
    refine Ev.step (f := fun k => (estreatref13_Place.f k L l[i]).bind fun bt => if ((tplaces L l).take i).length < 17592186044416 then estreatref13_Put.l1 k l L b ((tplaces L l).take i ++ [IntKind.u64.wrap bt.1]) ((i + 1 : Nat) : Int) else none) (fun k => by
      simp only [estreatref13_Put.l1]
      rw [if_pos (Int.ofNat_lt.2 hi), if_pos (Int.natCast_nonneg _), rdo_get hi, nx (by omega)]) ?_
    refine Ev.bind (place_f L l[i] (by omega)) ?_
    simp only [if_pos c, u64w_nat hp hn]
    exact hn2
theorem trput_l0 (l L : List ByteArray) (hn : L.length ≤ 65536) (hs : ∀ s ∈ L, s.size ≤ 65536) (res : List Int) :
    ∀ (d j : Nat) (b : List Int), L.length = j + d → b.length ≤ 10 + 70000 * j → Ev (fun k => estreatref13_Put.l1 k l L (b ++ blobs (L.drop j)) [] 0) res → Ev (fun k => estreatref13_Put.l0 k l L b j) res := by
  intro d
  induction d with
  | zero =>
    intro j b hd hb h
    rw [List.drop_of_length_le (by omega), blobs, List.append_nil] at h
    refine Ev.step (fun k => ?_) h
    simp only [estreatref13_Put.l0]
    rw [if_neg (by omega)]
  | succ d ih =>
    intro j b hd hb h
    have hj : j < L.length := by omega
    have hsz := hs _ (List.getElem_mem hj)
    have hbl := blob_len hsz
    rw [dropc L j hj, blobs, ← List.append_assoc] at h
    have hn2 := ih (j + 1) (b ++ blob L[j]) (by omega) (by rw [List.length_append]; omega) h
    have c : b.length + (blob L[j]).length < 140737488355328 := by omega
    refine Ev.step (f := fun k => (estreatref01_BlobS.f k L[j]).bind fun t => if b.length + t.length < 140737488355328 then estreatref13_Put.l0 k l L (b ++ t) ((j + 1 : Nat) : Int) else none) (fun k => by
      simp only [estreatref13_Put.l0]
      rw [if_pos (Int.ofNat_lt.2 hj), if_pos (Int.natCast_nonneg _), rdo_get hj, nx (by omega)]) ?_
    refine Ev.bind (refblob_ev hsz) ?_
    simp only [if_pos c]
    exact hn2
theorem reftext_f (l : List ByteArray) (hl : l.length ≤ 65536) (hs : ∀ s ∈ l, s.size ≤ 65536) : Ev (fun k => estreatref13_Put.f k l) (textOf l) := by
  unfold estreatref13_Put.f textOf
  refine Ev.bind (treflist_f l (by omega)) ?_
  have hL := tl_asc l
  have hn : (tl l).length ≤ 65536 := Nat.le_trans (tl_len l) hl
  have hLs : ∀ x ∈ tl l, x.size ≤ 65536 := fun x hx => hs x ((tl_mem l x).1 hx)
  have hm : ∀ x ∈ l, x ∈ tl l := fun x hx => (tl_mem l x).2 hx
  have e0 : IntKind.u64.wrap ((tl l).length : Int) = ((tl l).length : Int) := u64w_id (by omega) (by omega)
  rw [e0]
  have hp0 := refvar_ev (v := ((tl l).length : Int)) (by omega) (by omega)
  rw [Int.toNat_natCast] at hp0
  refine Ev.bind hp0 ?_
  have h10 := leb_length10 (v := (tl l).length) (by omega)
  have hbl := blobs_len (tl l) hLs
  have hend := trput_l1 l (tl l) (leb (tl l).length ++ blobs (tl l)) hL hm hn hl (by rw [List.length_append]; omega) l.length 0 (by omega)
  rw [List.take_zero] at hend
  exact trput_l0 l (tl l) hn hLs _ (tl l).length 0 _ (by omega) (by omega) hend

end Go.Proofs.YtefcchpjbojdkaaGreatDoor.Pure
