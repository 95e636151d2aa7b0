/- What estreatlaw09.RunsPuts computes is true for every list of numbers. -/
import Derived.Test.YtbjnfephigcdkaaPRunsPutsx2
import Derived.Lib.Zigzag
import Derived.Lib.BitFns
namespace Go.Proofs.Ytbjnfephigcdkaa.Pure
open Go.RowKit Go.Proofs.Ytbjnfephigcdkaa.PRunsPuts Go.Proofs.YtbjnfephigcdkaaW.PrintWords Go.Proofs.YtbjnfephigcdkaaW.PrintLast Go.Proofs.YtbjnfephigcdkaaW.PrintMore

/-! estreatref01.Same: are two lists one? -/
theorem same_l0 (xs ys : List Int) (hl : xs.length = ys.length) (hb : xs.length < 9223372036854775807) : ∀ (d k i : Nat), xs.length = i + d → d < k → estreatref01_Same.l0 k xs ys i = some (decide (xs.drop i = ys.drop i)) := by
  intro d
  induction d with
  | zero =>
    intro k i hd hk
    obtain ⟨k, rfl⟩ : ∃ m, k = m + 1 := ⟨k - 1, by omega⟩
    simp only [estreatref01_Same.l0]; rw [if_neg (by omega), List.drop_of_length_le (by omega), List.drop_of_length_le (by omega)]; simp
  | succ d ih =>
    intro k i hd hk
    obtain ⟨k, rfl⟩ : ∃ m, k = m + 1 := ⟨k - 1, by omega⟩
    simp only [estreatref01_Same.l0]
    have := ih k (i + 1) (by omega) (by omega)
    simp only [Int.natCast_add, Int.natCast_one] at this
    rw [if_pos (by omega), if_pos (by omega), if_pos (by omega), rd_get (by omega), rd_get (by omega), w64 (by omega) (by omega), this]
    have ex : xs.drop i = xs[i] :: xs.drop (i + 1) := List.drop_eq_getElem_cons (by omega)
    have ey : ys.drop i = ys[i] :: ys.drop (i + 1) := List.drop_eq_getElem_cons (by omega)
    rw [ex, ey]
    by_cases h : xs[i] = ys[i]
    · rw [if_pos h, h]; simp only [List.cons.injEq, true_and]
    · rw [if_neg h, decide_eq_false]; simp only [List.cons.injEq, h, false_and, not_false_eq_true]
theorem same_f (xs ys : List Int) (hb : xs.length < 9223372036854775807) : ∀ k, xs.length < k → estreatref01_Same.f k xs ys = some (decide (xs = ys)) := by
  intro k hk
  unfold estreatref01_Same.f
  by_cases h : xs.length = ys.length
  · rw [if_pos (by omega)]
    have := same_l0 xs ys h hb xs.length k 0 (by omega) hk
    simpa using this
  · rw [if_neg (by omega)]
    have : xs ≠ ys := fun e => h (by rw [e])
    simp [this]

theorem refvar_f : ∀ (n k v : Nat), v < 128 ^ (n + 1) → v < 18446744073709551616 → n < 100 → n < k → estreatref01_Var.f k v = some (leb v) := by
  intro n
  induction n with
  | zero =>
    intro k v hv h64 hn hk
    obtain ⟨k, rfl⟩ : ∃ m, k = m + 1 := ⟨k - 1, by omega⟩
    simp only [estreatref01_Var.f]
    rw [if_pos (by omega), leb_small (by omega), Int.emod_eq_of_lt (by omega) (by omega)]
  | succ n ih =>
    intro k v hv h64 hn hk
    obtain ⟨k, rfl⟩ : ∃ m, k = m + 1 := ⟨k - 1, by omega⟩
    simp only [estreatref01_Var.f]
    by_cases h : v < 128
    · rw [if_pos (by omega), leb_small h, Int.emod_eq_of_lt (by omega) (by omega)]
    · rw [if_neg (by omega), leb_big h]
      have hp : v / 128 < 128 ^ (n + 1) := by rw [Nat.div_lt_iff_lt_mul (by decide)]; rw [Nat.pow_succ] at hv; omega
      have e : IntKind.u64.wrap (Int.tdiv (v : Int) 128) = ((v / 128 : Nat) : Int) := by
        rw [Int.tdiv_eq_ediv_of_nonneg (by omega), u64w_id (by omega) (by omega)]; omega
      have e2 : IntKind.u64.wrap (128 + Int.tmod (v : Int) 128) % 256 = ((v % 128 + 128 : Nat) : Int) := by
        rw [Int.tmod_eq_emod_of_nonneg (by omega), u64w_id (by omega) (by omega)]; omega
      have hl := leb_length n (v / 128) hp
      rw [e, e2, ih k (v / 128) hp (by omega) (by omega) (by omega)]
      simp only [Option.bind_some]
      rw [if_pos (by simp; omega)]; simp
theorem refvar {v : Int} {k : Nat} (h0 : 0 ≤ v) (h1 : v < 18446744073709551616) (hk : 10 ≤ k) : estreatref01_Var.f k v = some (leb v.toNat) := by
  obtain ⟨n, rfl⟩ := Int.eq_ofNat_of_zero_le h0
  exact refvar_f 9 k n (Nat.lt_trans (by omega) p128) (by omega) (by omega) (by omega)

theorem refzig_f {x : Int} (h0 : -9223372036854775808 ≤ x) (h1 : x ≤ 9223372036854775807) : estreatref01_Zig.f x = some (zz x) := by
  unfold estreatref01_Zig.f zz
  by_cases h : 0 ≤ x
  · rw [if_pos h, if_pos h, u64w, u64w]; congr 1; omega
  · rw [if_neg h, if_neg h, u64w, u64w, u64w]; unfold wrap64; congr 1; omega

theorem runsawake : Ev (fun k => estreatlaw09_awake.f k) true := by
  unfold estreatlaw09_awake.f
  have h : runs_Put.f [5, 5, 5] = some ([2, 10], 0) := by
    have e : runForm (runsOf [5, 5, 5]) = [2, 10] := by
      have h1 : runsOf [5, 5, 5] = [(5, 3)] := by decide
      rw [h1]
      simp only [runForm, List.flatMap_cons, List.flatMap_nil]
      have hz : (zz 5).toNat = 10 := by decide
      rw [hz, leb_small (by decide), leb_small (by decide)]; rfl
    unfold runs_Put.f
    rw [if_neg (by decide), if_pos (by decide), e]
  rw [h]
  refine Ev.bind (Ev.now _) ?_
  refine Ev.bind (a := true) ⟨10, fun k hk => by
    have := same_f [2, 10] [2, 10] (by decide) k (by simp; omega)
    simpa using this⟩ ?_
  simp only [if_true]
  exact Ev.now _
theorem count_some (l : List Int) (h : l.length ≤ 65536) : runs_Count.f l = some ((runsOf l).length : Int) := by
  unfold runs_Count.f; rw [if_pos (by omega)]

def toS (x : Int × Nat) : S84 := ⟨x.1, (x.2 : Int)⟩
theorem rdT_last (r : List (Int × Nat)) (y : Int) (c : Nat) : rd_T84 ((r ++ [(y, c)]).map toS) ((r.length : Nat) : Int) = toS (y, c) := by
  simp [rd_T84]
theorem refruns_l0 (l : List Int) (hn : l.length ≤ 65536) : ∀ (d i : Nat), l.length = i + d → ∀ (r : List (Int × Nat)) (y : Int) (c : Nat), 1 ≤ c → c ≤ i → r.length ≤ i →
    Ev (fun k => estreatref09_Runs.l0 k l ((r ++ [(y, c)]).map toS) i) ((r ++ runsOf (List.replicate c y ++ l.drop i)).map toS) := by
  intro d
  induction d with
  | zero =>
    intro i hd r y c hc hci hr
    obtain ⟨c, rfl⟩ : ∃ m, c = m + 1 := ⟨c - 1, by omega⟩
    rw [List.drop_of_length_le (by omega), runsOf_run y [] (by simp) c]
    refine Ev.step (f := fun _ => some ((r ++ [(y, c + 1)]).map toS)) (fun k => ?_) (Ev.now _)
    simp only [estreatref09_Runs.l0]
    rw [if_neg (by omega)]
  | succ d ih =>
    intro i hd r y c hc hci hr
    have hlen : ((r ++ [(y, c)]).map toS).length = r.length + 1 := by simp
    have e1 : wrap64 ((((r ++ [(y, c)]).map toS).length : Int) - 1) = (r.length : Int) := by rw [hlen, w64 (by omega) (by omega)]; omega
    have hil : i < l.length := by omega
    have hrd : rd l (i : Int) = l[i] := rd_get hil
    by_cases he : y = l[i]
    · have hset : ((r ++ [(y, c)]).map toS).set r.length (⟨y, wrap64 ((c : Int) + 1)⟩ : S84) = (r ++ [(y, c + 1)]).map toS := by
        rw [w64 (by omega) (by omega)]
        simp [toS]
      have hrep : List.replicate c y ++ l.drop i = List.replicate (c + 1) y ++ l.drop (i + 1) := by
        rw [dropc l i hil, ← he, List.replicate_succ', List.append_assoc]; rfl
      rw [hrep]
      refine Ev.step (fun k => ?_) (ih (i + 1) (by omega) r y (c + 1) (by omega) (by omega) (by omega))
      simp only [estreatref09_Runs.l0]
      rw [if_pos (by omega), if_pos (by omega), e1, if_pos (by omega), if_pos (by omega), if_pos (by omega), rdT_last, hrd, Int.toNat_natCast]
      show (if y = l[i] then _ else _) = _
      rw [if_pos he]
      show estreatref09_Runs.l0 k l (((r ++ [(y, c)]).map toS).set r.length (⟨y, wrap64 ((c : Int) + 1)⟩ : S84)) (wrap64 ((i : Int) + 1)) = _
      rw [hset, w64 (by omega) (by omega)]; rfl
    · obtain ⟨c, rfl⟩ : ∃ m, c = m + 1 := ⟨c - 1, by omega⟩
      have hrun : runsOf (List.replicate (c + 1) y ++ l.drop i) = (y, c + 1) :: runsOf (List.replicate 1 l[i] ++ l.drop (i + 1)) := by
        rw [runsOf_run y (l.drop i) (fun z r' hz => by rw [dropc l i hil] at hz; injection hz with h1 _; rw [← h1]; exact fun e => he e.symm) c]
        congr 1
        rw [dropc l i hil]; rfl
      have hfin : r ++ runsOf (List.replicate (c + 1) y ++ l.drop i) = (r ++ [(y, c + 1)]) ++ runsOf (List.replicate 1 l[i] ++ l.drop (i + 1)) := by rw [hrun]; simp
      rw [hfin]
      refine Ev.step (fun k => ?_) (ih (i + 1) (by omega) (r ++ [(y, c + 1)]) l[i] 1 (by omega) (by omega) (by simp; omega))
      simp only [estreatref09_Runs.l0]
      rw [if_pos (by omega), if_pos (by omega), e1, if_pos (by omega), if_pos (by omega), if_pos (by omega), rdT_last, hrd]
      show (if y = l[i] then _ else _) = _
      rw [if_neg he, if_pos (by omega), w64 (by omega) (by omega), List.map_append (l₁ := r ++ [(y, c + 1)])]; rfl
theorem refruns_f (l : List Int) (hn : l.length ≤ 65536) : Ev (fun k => estreatref09_Runs.f k l) ((runsOf l).map toS) := by
  unfold estreatref09_Runs.f
  cases l with
  | nil =>
    refine Ev.step (f := fun _ => some []) (fun k => ?_) (Ev.now _)
    simp only [estreatref09_Runs.l0]
    rw [if_neg (by simp)]
  | cons x l =>
    have := refruns_l0 (x :: l) hn l.length 1 (by simp; omega) [] x 1 (by omega) (by omega) (by simp)
    refine Ev.step (fun k => ?_) this
    have hrd : rd (x :: l) 0 = x := rfl
    simp only [estreatref09_Runs.l0]
    rw [if_pos (by simp only [List.length_cons]; omega), if_neg (by decide), if_pos (by decide), if_pos (by decide), hrd, w64 (by decide) (by decide)]; rfl
theorem rdT_at (rs : List (Int × Nat)) (i : Nat) (h : i < rs.length) : rd_T84 (rs.map toS) (i : Int) = toS rs[i] := by
  simp [rd_T84, h]
theorem refput_l0 (rs : List (Int × Nat)) (hn : rs.length ≤ 65536) (hr : ∀ x ∈ rs, (-9223372036854775808 ≤ x.1 ∧ x.1 ≤ 9223372036854775807) ∧ 1 ≤ x.2 ∧ x.2 ≤ 65536) :
    ∀ (d i : Nat) (out : List Int), rs.length = i + d → out.length ≤ 20 * i → Ev (fun k => estreatref09_Put.l0 k out (rs.map toS) i) (out ++ runForm (rs.drop i)) := by
  intro d
  induction d with
  | zero =>
    intro i out hd ho
    have e : out ++ runForm (rs.drop i) = out := by rw [List.drop_of_length_le (by omega)]; simp [runForm]
    rw [e]
    refine Ev.step (f := fun _ => some out) (fun k => ?_) (Ev.now _)
    simp only [estreatref09_Put.l0]
    rw [if_neg (by rw [List.length_map]; omega)]
  | succ d ih =>
    intro i out hd ho
    have hi : i < rs.length := by omega
    have hx := hr rs[i] (List.getElem_mem hi)
    have hz := zz_range hx.1.1 hx.1.2
    have h1 := leb_length10 (v := (rs[i]).2 - 1) (by omega)
    have h2 := leb_length10 (v := (zz (rs[i]).1).toNat) (by omega)
    have hfin : out ++ runForm (rs.drop i) = (out ++ leb ((rs[i]).2 - 1) ++ leb (zz (rs[i]).1).toNat) ++ runForm (rs.drop (i + 1)) := by
      have ec : ∀ (x : Int × Nat) (r : List (Int × Nat)), runForm (x :: r) = leb (x.2 - 1) ++ leb (zz x.1).toNat ++ runForm r := fun x r => by simp [runForm]
      rw [dropc rs i hi, ec, List.append_assoc, List.append_assoc, List.append_assoc]
    rw [hfin]
    have hsub : IntKind.u64.wrap (wrap64 ((((rs[i]).2 : Nat) : Int) - 1)) = (((rs[i]).2 - 1 : Nat) : Int) := by
      rw [w64 (by omega) (by omega), u64w_id (by omega) (by omega)]; omega
    have hv1 : Ev (fun k => estreatref01_Var.f k (((rs[i]).2 - 1 : Nat) : Int)) (leb ((rs[i]).2 - 1)) := ⟨10, fun k hk => by
      have := refvar (v := (((rs[i]).2 - 1 : Nat) : Int)) (k := k) (by omega) (by omega) hk
      rw [Int.toNat_natCast] at this; exact this⟩
    have hv2 : Ev (fun k => estreatref01_Var.f k (zz (rs[i]).1)) (leb (zz (rs[i]).1).toNat) := ⟨10, fun k hk => refvar hz.1 hz.2 hk⟩
    have hrec := ih (i + 1) (out ++ leb ((rs[i]).2 - 1) ++ leb (zz (rs[i]).1).toNat) (by omega) (by simp only [List.length_append]; omega)
    have c1 : (i : Int) < (((rs.map toS).length : Nat) : Int) := by rw [List.length_map]; omega
    have c2 : 0 ≤ (i : Int) := Int.natCast_nonneg _
    have e84 : rd_T84 (rs.map toS) (i : Int) = (⟨(rs[i]).1, ((rs[i]).2 : Int)⟩ : S84) := rdT_at rs i hi
    refine Ev.step (f := fun k => (estreatref01_Var.f k (((rs[i]).2 - 1 : Nat) : Int)).bind fun t148 => (if out.length + t148.length < 140737488355328 then ((some (out ++ t148 : List Int)).bind fun y151 => ((some (zz (rs[i]).1)).bind fun t155 => ((estreatref01_Var.f k t155).bind fun t156 => (if y151.length + t156.length < 140737488355328 then (estreatref09_Put.l0 k (y151 ++ t156) (rs.map toS) (wrap64 ((i : Int) + 1))) else (none))))) else (none))) (fun k => ?_) ?_
    · simp only [estreatref09_Put.l0]
      rw [if_pos c1, if_pos c2, e84]
      simp only [hsub, refzig_f hx.1.1 hx.1.2]
    · refine Ev.bind hv1 ?_
      have i1 : out.length + (leb ((rs[i]).2 - 1)).length < 140737488355328 := by omega
      simp only [if_pos i1]
      refine Ev.bind (Ev.now _) ?_
      refine Ev.bind (Ev.now _) ?_
      refine Ev.bind hv2 ?_
      have i2 : (out ++ leb ((rs[i]).2 - 1)).length + (leb (zz (rs[i]).1).toNat).length < 140737488355328 := by rw [List.length_append]; omega
      simp only [if_pos i2]
      rw [w64 (by omega) (by omega)]
      exact hrec
theorem RunsPuts : estreatlaw09_RunsPuts.Pure := by
  intro l hm hs hl
  have hw : ∀ x ∈ l, -9223372036854775808 ≤ x ∧ x ≤ 9223372036854775807 := fun x hx => wf_i64 (hl x hx)
  refine Ev.rounds ?_
  unfold estreatlaw09_RunsPuts.f
  by_cases c : (l.length : Int) > 300
  · simp only [if_pos c]; exact Ev.bind runsawake (Ev.now _)
  simp only [if_neg c]
  have hp : runs_Put.f l = some (runForm (runsOf l), 0) := by unfold runs_Put.f; rw [if_neg (by omega), if_pos hw]
  rw [hp]
  refine Ev.bind (Ev.now _) ?_
  simp only [if_true]
  have hrl := runsOf_length l
  have hok := runsOf_ok l hw
  have hput : Ev (fun k => estreatref09_Put.f k l) (runForm (runsOf l)) := by
    unfold estreatref09_Put.f
    refine Ev.bind (refruns_f l (by omega)) ?_
    have := refput_l0 (runsOf l) (by omega) (fun x hx => by obtain ⟨h1, h2, h3⟩ := hok x hx; exact ⟨h1, h2, by omega⟩) (runsOf l).length 0 [] (by omega) (by simp)
    simpa using this
  refine Ev.bind hput ?_
  have hlen : (runForm (runsOf l)).length < 9223372036854775807 := by
    have : ∀ rs : List (Int × Nat), (∀ x ∈ rs, (-9223372036854775808 ≤ x.1 ∧ x.1 ≤ 9223372036854775807) ∧ 1 ≤ x.2 ∧ x.2 ≤ 65536) → (runForm rs).length ≤ 20 * rs.length := by
      intro rs
      induction rs with
      | nil => intro _; exact Nat.zero_le _
      | cons x rs ih =>
        intro h
        have hx := h x (by simp)
        have := ih (fun y hy => h y (by simp [hy]))
        have hz := zz_range hx.1.1 hx.1.2
        have h1 := leb_length10 (v := x.2 - 1) (by omega)
        have h2 := leb_length10 (v := (zz x.1).toNat) (by omega)
        have e : runForm (x :: rs) = leb (x.2 - 1) ++ leb (zz x.1).toNat ++ runForm rs := by simp [runForm]
        rw [e, List.length_append, List.length_append, List.length_cons]; omega
    have := this (runsOf l) (fun x hx => by obtain ⟨h1, h2, h3⟩ := hok x hx; exact ⟨h1, h2, by omega⟩)
    omega
  have hsame : Ev (fun k => estreatref01_Same.f k (runForm (runsOf l)) (runForm (runsOf l))) true := ⟨(runForm (runsOf l)).length + 1, fun k hk => by
    have := same_f (runForm (runsOf l)) (runForm (runsOf l)) hlen k (by omega)
    simpa using this⟩
  refine Ev.bind hsame ?_
  simp only [if_true]
  rw [count_some l (by omega)]
  refine Ev.bind (Ev.now _) ?_
  refine Ev.bind (refruns_f l (by omega)) ?_
  simp only [List.length_map, if_true]
  exact Ev.bind runsawake (Ev.now _)

end Go.Proofs.Ytbjnfephigcdkaa.Pure
