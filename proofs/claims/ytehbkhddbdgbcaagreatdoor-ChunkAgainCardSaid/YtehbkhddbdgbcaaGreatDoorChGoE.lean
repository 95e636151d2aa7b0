/- chunk.Get of any bytes: what it answers, as a plain function, errors too; and that the code comes to it. -/
import Derived.Test.YtehbkhddbdgbcaaGreatDoorChGetE
import Derived.Test.YtehbkhddbdgbcaaGreatDoorChFrE
import Derived.Test.YtehbkhddbdgbcaaGreatDoorChDcg
import Derived.Test.YtehbkhddbdgbcaaGreatDoorChWays
import Derived.Test.YtehbkhddbdgbcaaGreatDoorChPe
namespace Go.Proofs.YtehbkhddbdgbcaaGreatDoor.Ch
open Go.RowKit Go.Proofs.YtehbkhddbdgbcaaGreatDoorW.PrintWords Go.Proofs.YtehbkhddbdgbcaaGreatDoorW.PrintLast Go.Proofs.YtehbkhddbdgbcaaGreatDoorW.PrintMore Go.Proofs.YtehbkhddbdgbcaaGreatDoor.PChunkBack Go.Proofs.YtehbkhddbdgbcaaGreatDoor.Bits
attribute [local go_sem] max2_int min2_int max_two min_two max_three min_three max_four min_four
set_option linter.unusedVariables false
set_option linter.unusedSimpArgs false
/-- Why a chunk's front can't be read (0: it can). -/
def frontErr (b : List Int) (n : Nat) : Int :=
  match b with
  | [] => 2
  | f :: t =>
    if f = 0 then (if 0 < t.length then 0 else 2)
    else if f = 1 then
      (if t.length < (n + 7) / 8 then 2
      else if readErr (t.take ((n + 7) / 8)) n ≠ 0 then readErr (t.take ((n + 7) / 8)) n
      else if cnt (unp (t.take ((n + 7) / 8)) n) n = 0 then 4
      else if t.length = (n + 7) / 8 then 2 else 0)
    else 4
/-- What stands ahead of the way's form, where it can be read: which values are nothing, the way, where the form begins. -/
def headOf (b : List Int) (n : Nat) : List Bool × Int × Nat :=
  match b with
  | [] => ([], 0, 0)
  | f :: t => if f = 0 then (List.replicate n false, t.getD 0 0, 2) else (unp (t.take ((n + 7) / 8)) n, t.getD ((n + 7) / 8) 0, 1 + (n + 7) / 8 + 1)
def intv (way : Int) (rest : List Int) (m : Int) : List Int × Int := if way = 0 then Pure.getv rest m else if way = 1 then Pure.rgetv rest m else if way = 2 then Pure.deltav rest m else if way = 3 then Pure.dictv rest m else Pure.forev rest m
def bodyOf (kind : Int) (x : List Bool) (way : Int) (rest : List Int) : List S40 × Int :=
  if kind = 2 then
    (if way = 5 then (if (Pure.textv rest ((x.length : Int) - cnt x x.length)).2 = 0 then outW x (Pure.textv rest ((x.length : Int) - cnt x x.length)).1 x.length else [], (Pure.textv rest ((x.length : Int) - cnt x x.length)).2) else ([], 11))
  else (if 0 ≤ way ∧ way ≤ 4 then (if (intv way rest ((x.length : Int) - cnt x x.length)).2 = 0 then outI x (intv way rest ((x.length : Int) - cnt x x.length)).1 x.length else [], (intv way rest ((x.length : Int) - cnt x x.length)).2) else ([], 11))
def getV (b : List Int) (kind n : Int) : List S40 × Int :=
  if ¬ (kind = 1 ∨ kind = 2) ∨ n < 0 ∨ 65536 < n then ([], 1)
  else if frontErr b n.toNat ≠ 0 then ([], frontErr b n.toNat)
  else bodyOf kind (headOf b n.toNat).1 (headOf b n.toNat).2.1 (b.drop (headOf b n.toNat).2.2)
def getOf (k : Nat) (b : List Int) (kind n : Int) : Option (List S40 × Int) := if b.length ≤ 1000000 ∧ ∀ x ∈ b, 0 ≤ x ∧ x < 256 then some (getV b kind n) else none
theorem gets_of {α : Type} {d : Kd α} {e n : Nat} {rest : List Int} {m : Int} {p : List α × Int} {f : Nat → Option (List α × Int)} (hf : Ev f p)
    (hc : ∀ (k : Nat) (W : World) (A : Option Addr) (c : Nat), (Kd.int .u8).C W A rest.length rest → rest.length ≤ c → HG W → f k = some (p.1, p.2) → Calls Tryz.prog n #[.slice A rest.length c, .int .i64 m] W fun e' w' => ∃ v0_ : Value, e' = .returned (.tuple #[v0_, .int .i64 p.2]) ∧ Kd.R d e w' W.heap.size (fun _ => True) v0_ p.1 ∧ Below W.heap.size W w') : GetsTo d e n rest m p.1 p.2 := by
  obtain ⟨K, hK⟩ := hf
  intro W A c hC hc2 hG
  exact hc K W A c hC hc2 hG (hK K (Nat.le_refl _))
theorem gets_texts {rest : List Int} (hw : ∀ x ∈ rest, 0 ≤ x ∧ x < 256) (hl : rest.length ≤ 1000000) (m : Int) : GetsTo Kd.string 9 21 rest m (Pure.textv rest m).1 (Pure.textv rest m).2 := by
  intro W A c hC hc hG
  refine (txg_any W A c rest m hw hl hC hc hG).mono ?_
  rintro e w' ⟨v, rfl, hR, hB⟩
  exact ⟨v, rfl, hR, hB⟩
theorem gets_ints {rest : List Int} (hw : ∀ x ∈ rest, 0 ≤ x ∧ x < 256) (hl : rest.length ≤ 1000000) (m : Int) {way : Int} (hy : 0 ≤ way ∧ way ≤ 4) : GetsTo (Kd.int .i64) 2 (getNo way) rest m (intv way rest m).1 (intv way rest m).2 := by
  rcases ways hy with rfl | rfl | rfl | rfl | rfl
  · exact gets_of (p := Pure.getv rest m) (Pure.pget_f hw (by omega) m) (fun k W A c a b g e => plain_Get.calls k A c _ _ _ _ W a b g e)
  · exact gets_of (p := Pure.rgetv rest m) (Pure.nrget_f hw (by omega) m) (fun k W A c a b g e => runs_Get.calls k A c _ _ _ _ W a b g e)
  · exact gets_of (p := Pure.deltav rest m) (Pure.deltaget_f hw hl m) (fun k W A c a b g e => delta_Get.calls k A c _ _ _ _ W a b g e)
  · intro W A c hC hc hG
    refine (dcg_any W A c rest m hw hl hC hc hG).mono ?_
    rintro e w' ⟨v, rfl, hR, hB⟩
    exact ⟨v, rfl, hR, hB⟩
  · exact gets_of (p := Pure.forev rest m) (Pure.fore_f hw hl m) (fun k W A c a b g e => fore_Get.calls k A c _ _ _ _ W a b g e)
theorem intv_len {way : Int} {rest z : List Int} {m : Int} (hw : ∀ x ∈ rest, 0 ≤ x ∧ x < 256) (h : intv way rest m = (z, 0)) : (z.length : Int) = m := by
  unfold intv at h
  split at h
  · exact (Pure.plain_put_get hw h).2.1
  split at h
  · exact (Pure.runs_put_get hw h).2.1
  split at h
  · exact Pure.delta_len h
  split at h
  · exact Pure.dict_len h
  · exact Pure.fore_len h
theorem unp_len (l : List Int) (n : Nat) : (unp l n).length = n := by simp [unp]
/-- Where the front can be read it is read so. -/
theorem head_ok {b : List Int} (hw : ∀ x ∈ b, 0 ≤ x ∧ x < 256) (hl : b.length ≤ 1000000) {n : Nat} (hn : n ≤ 65536) (h : frontErr b n = 0) :
    (headOf b n).1.length = n ∧ FrontTo b (headOf b n).1 (headOf b n).2.1 (headOf b n).2.2 ∧ (headOf b n).2.2 ≤ b.length ∧
    b = (if (headOf b n).1.any id then 1 :: pack (headOf b n).1 else [0]) ++ [(headOf b n).2.1] ++ b.drop (headOf b n).2.2 := by
  match b, h with
  | f :: t, h =>
    simp only [frontErr] at h
    by_cases h0 : f = 0
    · have e0 : headOf (f :: t) n = (List.replicate n false, t.getD 0 0, 2) := by simp only [headOf]; rw [if_pos h0]
      rw [if_pos h0] at h
      rw [e0]
      by_cases h1 : 0 < t.length
      · match t, h1 with
        | z :: r, _ =>
          subst h0
          refine ⟨by simp, ?_, by simp, ?_⟩
          · intro w0 w g hI hB
            rw [List.length_replicate]
            exact front_no w0 w g n z r hI hB hn (hw z (by simp)) (by simp at hl; omega)
          · have : (List.replicate n false).any id = false := by rw [List.any_eq_false]; intro x hx; rw [(List.mem_replicate.1 hx).2]; decide
            rw [this]; rfl
      · rw [if_neg h1] at h; exact absurd h (by decide)
    · have e0 : headOf (f :: t) n = (unp (t.take ((n + 7) / 8)) n, t.getD ((n + 7) / 8) 0, 1 + (n + 7) / 8 + 1) := by simp only [headOf]; rw [if_neg h0]
      rw [if_neg h0] at h
      rw [e0]
      by_cases h1 : f = 1
      case neg => rw [if_neg h1] at h; exact absurd h (by decide)
      rw [if_pos h1] at h
      by_cases h2 : t.length < (n + 7) / 8
      · rw [if_pos h2] at h; exact absurd h (by decide)
      rw [if_neg h2] at h
      by_cases h3 : readErr (t.take ((n + 7) / 8)) n = 0
      case neg => rw [if_pos h3] at h; exact absurd h h3
      rw [if_neg (by omega)] at h
      by_cases h4 : cnt (unp (t.take ((n + 7) / 8)) n) n = 0
      · rw [if_pos h4] at h; exact absurd h (by decide)
      rw [if_neg h4] at h
      by_cases h5 : t.length = (n + 7) / 8
      · rw [if_pos h5] at h; exact absurd h (by decide)
      subst h1
      have hlt : (n + 7) / 8 < t.length := by omega
      have hwt : ∀ v ∈ t.take ((n + 7) / 8), 0 ≤ v ∧ v < 256 := fun v hv => hw v (by simp [List.mem_of_mem_take hv])
      have htl : (t.take ((n + 7) / 8)).length = (n + 7) / 8 := by rw [List.length_take]; omega
      have hp := pack_unp (t.take ((n + 7) / 8)) n hwt htl h3
      have hxl := unp_len (t.take ((n + 7) / 8)) n
      generalize hx : unp (t.take ((n + 7) / 8)) n = x at *
      have hy : t.getD ((n + 7) / 8) 0 = t[(n + 7) / 8] := by rw [List.getD_eq_getElem?_getD, List.getElem?_eq_getElem hlt]; rfl
      generalize hyy : t.getD ((n + 7) / 8) 0 = y at *
      have ht : t = pack x ++ y :: t.drop ((n + 7) / 8 + 1) := by
        rw [hp, hy]
        conv => lhs; rw [← List.take_append_drop ((n + 7) / 8) t, List.drop_eq_getElem_cons hlt]
      have hyb : 0 ≤ y ∧ y < 256 := hw y (by rw [ht]; simp)
      have hany : x.any id = true := by
        unfold cnt at h4
        have h6 : 0 < ((x.take n).filter id).length := by omega
        obtain ⟨a, ha⟩ := List.length_pos_iff_exists_mem.1 h6
        rw [List.mem_filter] at ha
        rw [List.any_eq_true]
        exact ⟨a, List.mem_of_mem_take ha.1, ha.2⟩
      refine ⟨hxl, ?_, by simp only [List.length_cons]; omega, ?_⟩
      · intro w0 w g hI hB
        have e : 1 + (n + 7) / 8 + 1 = 1 + (x.length + 7) / 8 + 1 := by rw [hxl]
        rw [ht] at hI ⊢
        rw [e]
        exact front_yes w0 w g x y _ hI hB (by omega) (by rw [hxl]; omega) hyb (by rw [List.length_drop]; simp at hl; omega)
      · rw [hany, if_pos rfl, show 1 + (n + 7) / 8 + 1 = ((n + 7) / 8 + 1) + 1 from by omega, List.drop_succ_cons]
        conv => lhs; rw [ht]
        simp
theorem front_err {b : List Int} (hw : ∀ x ∈ b, 0 ≤ x ∧ x < 256) (hl : b.length ≤ 1000000) {n : Nat} (hn : n ≤ 65536) (h : frontErr b n ≠ 0) : FrontErr b n (frontErr b n) := by
  match b, h with
  | [], h => exact front_nil n hn
  | f :: t, h =>
    have hlt : t.length ≤ 1000000000 := by simp at hl; omega
    have hwt : ∀ v ∈ t, 0 ≤ v ∧ v < 256 := fun v hv => hw v (by simp [hv])
    simp only [frontErr] at h ⊢
    by_cases h0 : f = 0
    · rw [if_pos h0] at h ⊢
      by_cases h1 : 0 < t.length
      · rw [if_pos h1] at h; exact absurd rfl h
      · rw [if_neg h1]
        obtain rfl : t = [] := List.eq_nil_of_length_eq_zero (by omega)
        subst h0
        exact front_zero n hn
    · rw [if_neg h0] at h ⊢
      by_cases h1 : f = 1
      case neg => rw [if_neg h1]; exact front_else n hn f t (hw f (by simp)) h0 h1 hlt
      rw [if_pos h1] at h ⊢
      subst h1
      by_cases h2 : t.length < (n + 7) / 8
      · rw [if_pos h2]; exact front_short n hn t h2 hlt
      rw [if_neg h2] at h ⊢
      by_cases h3 : readErr (t.take ((n + 7) / 8)) n = 0
      case neg => rw [if_pos h3]; exact front_bad n hn t (by omega) hwt hlt _ h3 rfl
      rw [if_neg (by omega)] at h ⊢
      by_cases h4 : cnt (unp (t.take ((n + 7) / 8)) n) n = 0
      · rw [if_pos h4]; exact front_none n hn t (by omega) hwt hlt h3 h4
      rw [if_neg h4] at h ⊢
      by_cases h5 : t.length = (n + 7) / 8
      · rw [if_pos h5]; exact front_end n hn t h5.symm hwt hlt h3 (by omega)
      · rw [if_neg h5] at h; exact absurd rfl h
theorem kind_no (kind : Int) (h : ¬ (kind = 1 ∨ kind = 2)) : chunk_isKind.f kind = some false := by
  unfold chunk_isKind.f
  rw [if_neg (fun e => h (.inl e))]
  exact congrArg some (beq_eq_false_iff_ne.2 (fun e => h (.inr e)))
theorem kind_yes (kind : Int) (h : kind = 1 ∨ kind = 2) : chunk_isKind.f kind = some true := by
  unfold chunk_isKind.f
  rcases h with rfl | rfl <;> rfl
set_option maxRecDepth 100000 in
set_option maxHeartbeats 8000000 in
theorem get_arg (w : World) (A : Option Addr) (c : Nat) (b : List Int) (kind n : Int) (h : ¬ (kind = 1 ∨ kind = 2) ∨ n < 0 ∨ 65536 < n) :
    Calls Tryz.prog 10 #[.slice A b.length c, .int .i64 kind, .int .i64 n] w fun e w' => ∃ v0_ : Value, e = .returned (.tuple #[v0_, .int .i64 1]) ∧ Kd.R k40 40 w' w.heap.size (fun _ => True) v0_ [] ∧ Below w.heap.size w w' := by
  by_cases hk : kind = 1 ∨ kind = 2
  · have hK := Aside0.mk (chunk_isKind.calls kind true w (kind_yes kind hk))
    by_cases h0 : n < 0
    · have d0 : decide (n < 0) = true := decide_eq_true h0
      clear h hk
      go_enter Tryz.func10, Tryz.ntmps10
      go_wp2_with (go_at_call 14; (with_reducible refine hK.out.mono ?_); rintro e w1 ⟨rfl, q, rfl⟩)
      go_ret2
      exact ⟨_, rfl, Kd.R_nil _ _ _ _ _, pw_below_drewN (Below.refl _ _) q⟩
    · have d0 : decide (n < 0) = false := decide_eq_false h0
      have h1 : 65536 < n := (h.resolve_left (not_not_intro hk)).resolve_left h0
      have d1 : decide (65536 < n) = true := decide_eq_true h1
      clear h hk
      go_enter Tryz.func10, Tryz.ntmps10
      go_wp2_with (go_at_call 14; (with_reducible refine hK.out.mono ?_); rintro e w1 ⟨rfl, q, rfl⟩)
      go_ret2
      exact ⟨_, rfl, Kd.R_nil _ _ _ _ _, pw_below_drewN (Below.refl _ _) q⟩
  · have hK := Aside0.mk (chunk_isKind.calls kind false w (kind_no kind hk))
    clear h hk
    go_enter Tryz.func10, Tryz.ntmps10
    go_wp2_with (go_at_call 14; (with_reducible refine hK.out.mono ?_); rintro e w1 ⟨rfl, q, rfl⟩)
    go_ret2
    exact ⟨_, rfl, Kd.R_nil _ _ _ _ _, pw_below_drewN (Below.refl _ _) q⟩
set_option maxRecDepth 100000 in
set_option maxHeartbeats 8000000 in
theorem get_front (w : World) (A : Option Addr) (c : Nat) (b : List Int) (kind : Int) (n : Nat) (er : Int) (hr : Kd.C (Kd.int .u8) w A b.length b) (hc : b.length ≤ c) (hG : HG w) (hk : kind = 1 ∨ kind = 2) (hn : n ≤ 65536) (hb : b.length ≤ 1000000000) (hF : FrontErr b n er) (he : er ≠ 0) :
    Calls Tryz.prog 10 #[.slice A b.length c, .int .i64 kind, .int .i64 n] w fun e w' => ∃ v0_ : Value, e = .returned (.tuple #[v0_, .int .i64 er]) ∧ Kd.R k40 40 w' w.heap.size (fun _ => True) v0_ [] ∧ Below w.heap.size w w' := by
  have hK := Aside0.mk (chunk_isKind.calls kind true w (kind_yes kind hk))
  have f0 : num_NewReader.f b = some (b, 0, 0, 0) := by unfold num_NewReader.f; rw [if_pos (by omega)]
  have hN := Aside0.mk (fun q => num_NewReader.calls A c b _ _ _ _ w (w.drewN q) (pw_below_drewN (Below.refl _ _) q) (Kd.C_drewN hr q) hc hG f0)
  have d0 : decide ((n : Int) < 0) = false := decide_eq_false (by omega)
  have d1 : decide (65536 < (n : Int)) = false := decide_eq_false (by omega)
  have c5 : (er != 0) = true := bne_iff_ne.2 he
  have HF := Aside0.mk hF
  clear hr hF f0 hk he
  go_enter Tryz.func10, Tryz.ntmps10
  go_wp2_with (first
    | (go_at_call 14; (with_reducible refine hK.out.mono ?_); rintro e w1 ⟨rfl, q, rfl⟩)
    | (go_at_call 18; (with_reducible refine (hN.out q).mono ?_); rintro e w2 ⟨g, rfl, hI, hB, _⟩; have I2 := Aside0.mk hI; have B2 := Aside0.mk hB; clear hI hB)
    | (go_at_call 19; (with_reducible refine (HF.out _ _ _ I2.out B2.out).mono ?_); rintro e w3 ⟨v3, y3, rfl, hB⟩; have B3 := Aside0.mk hB; clear hB I2 B2))
  go_ret2
  exact ⟨_, rfl, Kd.R_nil _ _ _ _ _, B3.out⟩
set_option maxRecDepth 100000 in
set_option maxHeartbeats 8000000 in
theorem get_not (w : World) (A : Option Addr) (c : Nat) (b : List Int) (kind way : Int) (x : List Bool) (at_ : Nat) (hr : Kd.C (Kd.int .u8) w A b.length b) (hc : b.length ≤ c) (hG : HG w) (hk : kind = 1 ∨ kind = 2) (hn : x.length ≤ 65536) (hb : b.length ≤ 1000000000) (hF : FrontTo b x way at_) (ho : chunk_of.f way kind = some false) :
    Calls Tryz.prog 10 #[.slice A b.length c, .int .i64 kind, .int .i64 x.length] w fun e w' => ∃ v0_ : Value, e = .returned (.tuple #[v0_, .int .i64 11]) ∧ Kd.R k40 40 w' w.heap.size (fun _ => True) v0_ [] ∧ Below w.heap.size w w' := by
  have hK := Aside0.mk (chunk_isKind.calls kind true w (kind_yes kind hk))
  have f0 : num_NewReader.f b = some (b, 0, 0, 0) := by unfold num_NewReader.f; rw [if_pos (by omega)]
  have hN := Aside0.mk (fun q => num_NewReader.calls A c b _ _ _ _ w (w.drewN q) (pw_below_drewN (Below.refl _ _) q) (Kd.C_drewN hr q) hc hG f0)
  have d0 : decide ((x.length : Int) < 0) = false := decide_eq_false (by omega)
  have d1 : decide (65536 < (x.length : Int)) = false := decide_eq_false (by omega)
  have HF := Aside0.mk hF
  have HO := Aside0.mk ho
  clear hr hF f0 hk ho
  go_enter Tryz.func10, Tryz.ntmps10
  go_wp2_with (first
    | (go_at_call 14; (with_reducible refine hK.out.mono ?_); rintro e w1 ⟨rfl, q, rfl⟩)
    | (go_at_call 18; (with_reducible refine (hN.out q).mono ?_); rintro e w2 ⟨g, rfl, hI, hB, _⟩; have I2 := Aside0.mk hI; have B2 := Aside0.mk hB; clear hI hB)
    | (go_at_call 19; have hf3 := HF.out _ _ _ I2.out B2.out; (with_reducible refine hf3.mono ?_); clear hf3; rintro e w3 ⟨gs, bs, rfl, hS, hI, hB⟩; have B3 := Aside0.mk hB; clear hS hI hB I2 B2)
    | (go_at_call 15; (with_reducible refine (chunk_of.calls way kind false _ HO.out).mono ?_); rintro e w4 ⟨rfl, q4, rfl⟩))
  go_ret2
  exact ⟨_, rfl, Kd.R_nil _ _ _ _ _, pw_below_drewN B3.out q4⟩
theorem get_any (w : World) (A0 : Option Addr) (c0 : Nat) (b : List Int) (kind n : Int) (hl : b.length ≤ 1000000) (hw : ∀ x ∈ b, 0 ≤ x ∧ x < 256) (hr : Kd.C (Kd.int .u8) w A0 b.length b) (hc : b.length ≤ c0) (hG : HG w) :
    Calls Tryz.prog 10 #[.slice A0 b.length c0, .int .i64 kind, .int .i64 n] w fun e w' => ∃ v0_ : Value, e = .returned (.tuple #[v0_, .int .i64 (getV b kind n).2]) ∧ Kd.R k40 40 w' w.heap.size (fun _ => True) v0_ (getV b kind n).1 ∧ Below w.heap.size w w' := by
  unfold getV
  by_cases h1 : ¬ (kind = 1 ∨ kind = 2) ∨ n < 0 ∨ 65536 < n
  · rw [if_pos h1]; exact get_arg w A0 c0 b kind n h1
  rw [if_neg h1]
  have hk : kind = 1 ∨ kind = 2 := Classical.not_not.1 (fun e => h1 (.inl e))
  have h2 : ¬ n < 0 := fun e => h1 (.inr (.inl e))
  have h3 : ¬ 65536 < n := fun e => h1 (.inr (.inr e))
  clear h1
  obtain ⟨N, rfl⟩ := Int.eq_ofNat_of_zero_le (show 0 ≤ n by omega)
  rw [Int.toNat_natCast]
  have hN : N ≤ 65536 := by omega
  by_cases hf : frontErr b N = 0
  case neg =>
    rw [if_pos hf]
    exact get_front w A0 c0 b kind N _ hr hc hG hk hN (by omega) (front_err hw hl hN hf) hf
  rw [if_neg (by omega)]
  obtain ⟨hxl, hF, ha, _⟩ := head_ok hw hl hN hf
  generalize headOf b N = h at *
  obtain ⟨x, way, at_⟩ := h
  dsimp only at hxl hF ha ⊢
  have hwr : ∀ z ∈ b.drop at_, 0 ≤ z ∧ z < 256 := fun z hz => hw z (List.mem_of_mem_drop hz)
  have hlr : (b.drop at_).length ≤ 1000000 := by rw [List.length_drop]; omega
  have hcl := cnt_le x x.length
  subst hxl
  unfold bodyOf
  rcases hk with rfl | rfl
  · rw [if_neg (by decide)]
    by_cases hy : 0 ≤ way ∧ way ≤ 4
    · rw [if_pos hy]
      exact get_ints w A0 c0 b (b.drop at_) x _ at_ way hr hc hG hF hN (by omega) rfl ha _ hy (gets_ints hwr hlr _ hy) (fun h0 => by
        have := intv_len (way := way) hwr (show intv way (b.drop at_) ((x.length : Int) - cnt x x.length) = ((intv way (b.drop at_) ((x.length : Int) - cnt x x.length)).1, 0) from by rw [← h0])
        omega)
    · rw [if_neg hy]
      refine get_not w A0 c0 b 1 way x at_ hr hc hG (.inl rfl) hN (by omega) hF ?_
      unfold chunk_of.f
      rw [if_neg (by decide)]
      by_cases h4 : way ≥ 0
      · rw [if_pos h4, decide_eq_false (fun e => hy ⟨h4, e⟩)]
      · rw [if_neg h4]
  · rw [if_pos rfl]
    by_cases hy : way = 5
    · rw [if_pos hy]
      subst hy
      exact get_texts w A0 c0 b (b.drop at_) x _ at_ hr hc hG hF hN (by omega) rfl ha _ (gets_texts hwr hlr _) (fun h0 => by
        have := Pure.text_len (show Pure.textv (b.drop at_) ((x.length : Int) - cnt x x.length) = ((Pure.textv (b.drop at_) ((x.length : Int) - cnt x x.length)).1, 0) from by rw [← h0])
        omega)
    · rw [if_neg hy]
      refine get_not w A0 c0 b 2 way x at_ hr hc hG (.inr rfl) hN (by omega) hF ?_
      unfold chunk_of.f
      rw [if_pos rfl, beq_eq_false_iff_ne.2 hy]
theorem get_ok (k : Nat) (w : World) (A0 : Option Addr) (c0 : Nat) (b : List Int) (kind n : Int) (r1 : List S40) (r2 : Int) (hr : Kd.C (Kd.int .u8) w A0 b.length b) (hc : b.length ≤ c0) (hG : HG w) (h : getOf k b kind n = some (r1, r2)) :
    Calls Tryz.prog 10 #[.slice A0 b.length c0, .int .i64 kind, .int .i64 n] w fun e w' => ∃ v0_ : Value, e = .returned (.tuple #[v0_, .int .i64 r2]) ∧ Kd.R k40 40 w' w.heap.size (fun _ => True) v0_ r1 ∧ Below w.heap.size w w' := by
  unfold getOf at h
  by_cases hg : b.length ≤ 1000000 ∧ ∀ x ∈ b, 0 ≤ x ∧ x < 256
  case neg => rw [if_neg hg] at h; cases h
  rw [if_pos hg] at h
  have h2 := Option.some.inj h
  have h3 := get_any w A0 c0 b kind n hg.1 hg.2 hr hc hG
  rw [h2] at h3
  exact h3
end Go.Proofs.YtehbkhddbdgbcaaGreatDoor.Ch
