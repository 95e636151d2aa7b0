/- What estreatlaw09.RunsParts computes is true for any two lists of numbers. -/
import Derived.Test.YtbjnfephigcdkaaPRunsPartsx2
import Derived.Lib.Zigzag
import Derived.Lib.BitFns
namespace Go.Proofs.Ytbjnfephigcdkaa.Pure
open Go.RowKit Go.Proofs.Ytbjnfephigcdkaa.PRunsParts Go.Proofs.YtbjnfephigcdkaaW.PrintWords Go.Proofs.YtbjnfephigcdkaaW.PrintLast Go.Proofs.YtbjnfephigcdkaaW.PrintMore

/-! estreatref01.Same: are two lists one? -/
theorem same_l0 (xs ys : List Int) (hl : xs.length = ys.length) (hb : xs.length < 9223372036854775807) : ∀ (d k i : Nat), xs.length = i + d → d < k → estreatref01_Same.l0 k xs ys i = some (decide (xs.drop i = ys.drop i)) := by
  intro d
  induction d with
  | zero =>
    intro k i hd hk
    obtain ⟨k, rfl⟩ : ∃ m, k = m + 1 := ⟨k - 1, by omega⟩
    simp only [estreatref01_Same.l0]; rw [if_neg (by omega), List.drop_of_length_le (by omega), List.drop_of_length_le (by omega)]; simp
  | succ d ih =>
    intro k i hd hk
    obtain ⟨k, rfl⟩ : ∃ m, k = m + 1 := ⟨k - 1, by omega⟩
    simp only [estreatref01_Same.l0]
    have := ih k (i + 1) (by omega) (by omega)
    simp only [Int.natCast_add, Int.natCast_one] at this
    rw [if_pos (by omega), if_pos (by omega), if_pos (by omega), rd_get (by omega), rd_get (by omega), w64 (by omega) (by omega), this]
    have ex : xs.drop i = xs[i] :: xs.drop (i + 1) := List.drop_eq_getElem_cons (by omega)
    have ey : ys.drop i = ys[i] :: ys.drop (i + 1) := List.drop_eq_getElem_cons (by omega)
    rw [ex, ey]
    by_cases h : xs[i] = ys[i]
    · rw [if_pos h, h]; simp only [List.cons.injEq, true_and]
    · rw [if_neg h, decide_eq_false]; simp only [List.cons.injEq, h, false_and, not_false_eq_true]
theorem same_f (xs ys : List Int) (hb : xs.length < 9223372036854775807) : ∀ k, xs.length < k → estreatref01_Same.f k xs ys = some (decide (xs = ys)) := by
  intro k hk
  unfold estreatref01_Same.f
  by_cases h : xs.length = ys.length
  · rw [if_pos (by omega)]
    have := same_l0 xs ys h hb xs.length k 0 (by omega) hk
    simpa using this
  · rw [if_neg (by omega)]
    have : xs ≠ ys := fun e => h (by rw [e])
    simp [this]

theorem runsawake : Ev (fun k => estreatlaw09_awake.f k) true := by
  unfold estreatlaw09_awake.f
  have h : runs_Put.f [5, 5, 5] = some ([2, 10], 0) := by
    have e : runForm (runsOf [5, 5, 5]) = [2, 10] := by
      have h1 : runsOf [5, 5, 5] = [(5, 3)] := by decide
      rw [h1]
      simp only [runForm, List.flatMap_cons, List.flatMap_nil]
      have hz : (zz 5).toNat = 10 := by decide
      rw [hz, leb_small (by decide), leb_small (by decide)]; rfl
    unfold runs_Put.f
    rw [if_neg (by decide), if_pos (by decide), e]
  rw [h]
  refine Ev.bind (Ev.now _) ?_
  refine Ev.bind (a := true) ⟨10, fun k hk => by
    have := same_f [2, 10] [2, 10] (by decide) k (by simp; omega)
    simpa using this⟩ ?_
  simp only [if_true]
  exact Ev.now _
theorem count_some (l : List Int) (h : l.length ≤ 65536) : runs_Count.f l = some ((runsOf l).length : Int) := by
  unfold runs_Count.f; rw [if_pos (by omega)]

theorem runs_len_cons (x y : Int) (l : List Int) : (runsOf (x :: y :: l)).length = (runsOf (y :: l)).length + if x = y then 0 else 1 := by
  obtain ⟨k, r, he⟩ := runsOf_head y l
  rw [runsOf, he]
  by_cases h : x = y
  · simp [h]
  · simp [h]
theorem runs_join (b : List Int) (y : Int) : ∀ (l : List Int) (x z : Int), (x :: l).getLast? = some z → (runsOf (x :: l ++ y :: b)).length + (if z = y then 1 else 0) = (runsOf (x :: l)).length + (runsOf (y :: b)).length := by
  intro l
  induction l with
  | nil =>
    intro x z hz
    have : x = z := by simpa using hz
    subst this
    show (runsOf (x :: y :: b)).length + _ = (runsOf [x]).length + _
    rw [runs_len_cons]
    have h1 : (runsOf [x]).length = 1 := rfl
    rw [h1]
    split <;> omega
  | cons w l ih =>
    intro x z hz
    have hz' : (w :: l).getLast? = some z := by rw [← hz]; simp
    have := ih w z hz'
    show (runsOf (x :: w :: (l ++ y :: b))).length + _ = _
    rw [runs_len_cons, runs_len_cons]
    have e : runsOf (w :: l ++ y :: b) = runsOf (w :: (l ++ y :: b)) := rfl
    rw [e] at this
    omega
theorem parts_true (l m : List Int) : Ev (fun k => estreatlaw09_RunsParts.j0 k l m true) true := by
  refine Ev.step (f := fun k => (estreatlaw09_awake.f k).bind fun t => some t) (fun k => ?_) (Ev.bind runsawake (Ev.now _))
  rw [estreatlaw09_RunsParts.j0.eq_2, if_pos rfl]
theorem parts_j1 (l m : List Int) (n : Int) (t : Bool) (hl : l.length ≤ 300) (hm : m.length ≤ 300) (h : ((runsOf (l ++ m)).length : Int) = if t = true then wrap64 (n - 1) else n) : Ev (fun k => estreatlaw09_RunsParts.j1 k l m n t) true := by
  refine Ev.step (fun k => by rw [estreatlaw09_RunsParts.j1.eq_2]) ?_
  have i1 : ([] : List Int).length + l.length < 17592186044416 := by simp; omega
  have i2 : ([] ++ l : List Int).length + m.length < 17592186044416 := by simp; omega
  have hc := count_some ([] ++ l ++ m) (by simp; omega)
  have e : ([] ++ l ++ m : List Int) = l ++ m := by simp
  rw [e] at hc
  cases t with
  | true =>
    rw [if_pos rfl] at h
    simp only [if_true]
    refine Ev.bind (Ev.now _) ?_
    simp only [if_pos i1]
    refine Ev.bind (Ev.now _) ?_
    simp only [if_pos i2, e]
    rw [hc]
    refine Ev.bind (Ev.now _) ?_
    simp only [if_pos h]
    exact Ev.bind runsawake (Ev.now _)
  | false =>
    rw [if_neg (by decide)] at h
    simp only [if_neg (show ¬ (false = true) by decide)]
    refine Ev.bind (Ev.now _) ?_
    simp only [if_pos i1]
    refine Ev.bind (Ev.now _) ?_
    simp only [if_pos i2, e]
    rw [hc]
    refine Ev.bind (Ev.now _) ?_
    simp only [if_pos h]
    exact Ev.bind runsawake (Ev.now _)
theorem RunsParts : estreatlaw09_RunsParts.Pure := by
  intro l m hm hs hl hm2 hs2 hl2
  refine Ev.rounds ?_
  unfold estreatlaw09_RunsParts.f
  by_cases c : (l.length : Int) > 300
  · simp only [if_pos c]; exact parts_true l m
  simp only [if_neg c]
  by_cases c2 : (m.length : Int) > 300
  · simp only [decide_eq_true c2]; exact parts_true l m
  simp only [decide_eq_false c2]
  have hll : l.length ≤ 300 := by omega
  have hml : m.length ≤ 300 := by omega
  refine Ev.step (fun k => by rw [estreatlaw09_RunsParts.j0.eq_2, if_neg (by decide)]) ?_
  rw [count_some l (by omega), count_some m (by omega)]
  refine Ev.bind (Ev.now _) ?_
  refine Ev.bind (Ev.now _) ?_
  have r1 := runsOf_length l
  have r2 := runsOf_length m
  have ew : wrap64 (((runsOf l).length : Int) + ((runsOf m).length : Int)) = ((runsOf l).length : Int) + ((runsOf m).length : Int) := w64 (by omega) (by omega)
  rw [ew]
  cases l with
  | nil =>
    have c3 : ¬ (([] : List Int).length : Int) > 0 := by decide
    simp only [if_neg c3]
    exact parts_j1 [] m _ false (by simp) hml (by simp [runsOf])
  | cons x l =>
    have c3 : ((x :: l : List Int).length : Int) > 0 := by simp only [List.length_cons]; omega
    simp only [if_pos c3]
    cases m with
    | nil =>
      have c4 : ¬ (([] : List Int).length : Int) > 0 := by decide
      simp only [if_neg c4]
      exact parts_j1 (x :: l) [] _ false hll (by simp) (by simp [runsOf])
    | cons y m =>
      have c4 : ((y :: m : List Int).length : Int) > 0 := by simp only [List.length_cons]; omega
      have e1 : wrap64 (((x :: l : List Int).length : Int) - 1) = (l.length : Int) := by rw [w64 (by omega) (by omega)]; simp only [List.length_cons]; omega
      have c5 : 0 ≤ (l.length : Int) := Int.natCast_nonneg _
      have c6 : (l.length : Int) < ((x :: l : List Int).length : Int) := by simp only [List.length_cons]; omega
      simp only [if_pos c4, e1, if_pos c5, if_pos c6]
      have elast : rd (x :: l) (l.length : Int) = (x :: l)[l.length]'(by simp) := rd_get (by simp)
      have hlast : (x :: l).getLast? = some ((x :: l)[l.length]'(by simp)) := by rw [List.getLast?_eq_getElem?]; simp
      have hj := runs_join m y l x _ hlast
      have ehead : rd (y :: m) 0 = y := rfl
      rw [elast, ehead]
      by_cases hc : (x :: l)[l.length]'(by simp) = y
      · rw [if_pos hc] at hj
        rw [show ((x :: l)[l.length]'(by simp) == y) = true by simp [hc]]
        refine parts_j1 (x :: l) (y :: m) _ true hll hml ?_
        rw [if_pos rfl, w64 (by omega) (by omega)]; omega
      · rw [if_neg hc] at hj
        rw [show ((x :: l)[l.length]'(by simp) == y) = false by simp [hc]]
        refine parts_j1 (x :: l) (y :: m) _ false hll hml ?_
        rw [if_neg (by decide)]; omega

end Go.Proofs.Ytbjnfephigcdkaa.Pure
