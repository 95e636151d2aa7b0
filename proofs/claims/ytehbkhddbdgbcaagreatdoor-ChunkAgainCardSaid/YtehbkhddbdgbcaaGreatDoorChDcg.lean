/- texts.list, walked by hand: what it reads, and where it comes to stand. -/
import Derived.Test.YtehbkhddbdgbcaaGreatDoorChPg
import Derived.Deep.DeepCutAuto
namespace Go.Proofs.YtehbkhddbdgbcaaGreatDoor.Ch
open Go.RowKit Go.Proofs.YtehbkhddbdgbcaaGreatDoorW.PrintWords Go.Proofs.YtehbkhddbdgbcaaGreatDoorW.PrintLast Go.Proofs.YtehbkhddbdgbcaaGreatDoorW.PrintMore Go.Proofs.YtehbkhddbdgbcaaGreatDoor.PChunkBack Go.Proofs.YtehbkhddbdgbcaaGreatDoor.Pure
attribute [local go_sem] max2_int min2_int max_two min_two max_three min_three max_four min_four
set_option linter.unusedVariables false
set_option linter.unusedSimpArgs false
theorem str_eq (x y : List UInt8) : (Op.bytesLess x y || x == y) = !(Op.bytesLess y x) := by
  rw [bytesLess_eq, bytesLess_eq]
  by_cases h : x < y
  · have h2 : ¬ y < x := fun h3 => List.lt_irrefl x (List.lt_trans h h3)
    simp [h, h2]
  · by_cases h2 : y < x
    · have h3 : ¬ x = y := fun e => by subst e; exact List.lt_irrefl x h2
      simp [h, h2, h3]
    · have h3 : x = y := List.le_antisymm (List.not_lt.1 h2) (List.not_lt.1 h)
      simp [h3]
theorem str_leq (t : TypeId) (a b : ByteArray) : binOp .leq t (.string a) (.string b) = pure (.bool !(Op.bytesLess b.toList a.toList)) := by rw [← str_eq]; simp [binOp, Op.stringOp]
attribute [local go_sem high] str_leq
theorem less_tb (x y : ByteArray) : Op.bytesLess x.toList y.toList = decide (tb x < tb y) := less_eq x y

/-- A row stays behind a reader's call. -/
theorem R_rd {α : Type} {d : Kd α} {e base : Nat} {v : Value} {xs : List α} {w0 W W2 : World} {g : Nat} {f0 : List Int} {f1 f2 f3 : Int} (hI : IsS73 w0 W g f0 f1 f2 f3) (hR : d.R e W base (fun _ => True) v xs) (hK : KeepBut W W2 g none) (hd : ∀ q, q ∈ e :: d.E → q ≠ 73 := by decide) : d.R e W2 base (fun _ => True) v xs :=
  Kd.R_mono (Kd.R_keep (IsS73.apart hI hR hd) hK (fun _ h => h.2)) (fun _ h => h.1)
/-- What a list of texts has come to: E is why not (0: it has). -/
def Listed (b : List Int) (n : Int) (L : List ByteArray) (p : Nat) (E : Int) : Prop := E = (tsv b n).2.2 ∧ (E = 0 → L = (tsv b n).1 ∧ p = (tsv b n).2.1) ∧ p ≤ b.length ∧ L.length ≤ 65536
/-- What holds ahead of round i of c. -/
def LInv (b : List Int) (n : Int) (c i : Nat) (out : List ByteArray) (p : Nat) (e : Int) : Prop :=
  i ≤ c ∧ out.length ≤ 65536 ∧ p ≤ b.length ∧ (e ≠ 0 ∧ e = (tsv b n).2.2 ∨ e = 0 ∧ i = out.length ∧ c ≤ 65536 ∧ tst b (c - i) p out = tsv b n)
theorem LInv.blob {b : List Int} {n : Int} {c i : Nat} {out : List ByteArray} {p : Nat} (h : LInv b n c i out p 0) (hi : i < c) (hw : ∀ x ∈ b, 0 ≤ x ∧ x < 256) :
    ((blb b p).2.2 ≠ 0 → LInv b n c (i + 1) (out ++ [strOfNums (blb b p).1]) (blb b p).2.1 (blb b p).2.2) ∧
    ((blb b p).2.2 = 0 → rises out (strOfNums (blb b p).1) → LInv b n c (i + 1) (out ++ [strOfNums (blb b p).1]) (blb b p).2.1 0) ∧
    ((blb b p).2.2 = 0 → ¬ rises out (strOfNums (blb b p).1) → LInv b n c (i + 1) (out ++ [strOfNums (blb b p).1]) (blb b p).2.1 4) := by
  obtain ⟨h1, h2, h3, h4⟩ := h
  rcases h4 with h4 | ⟨_, h5, h6, h7⟩
  · exact absurd rfl h4.1
  have hle := blb_le hw h3
  rw [show c - i = (c - (i + 1)) + 1 by omega, tst] at h7
  have hlen : ∀ s : ByteArray, (out ++ [s]).length = out.length + 1 := by simp
  refine ⟨fun e => ?_, fun e r => ?_, fun e r => ?_⟩
  · rw [if_neg e] at h7
    exact ⟨by omega, by rw [hlen]; omega, hle, .inl ⟨e, by rw [← h7]⟩⟩
  · rw [if_pos e, if_pos r] at h7
    exact ⟨by omega, by rw [hlen]; omega, hle, .inr ⟨rfl, by rw [hlen]; omega, h6, h7⟩⟩
  · rw [if_pos e, if_neg r] at h7
    exact ⟨by omega, by rw [hlen]; omega, hle, .inl ⟨by decide, by rw [← h7]⟩⟩
theorem LInv.done {b : List Int} {n : Int} {c : Nat} {out : List ByteArray} {p i : Nat} {e : Int} (h : LInv b n c i out p e) (hi : e ≠ 0 ∨ i = c) (hT : e = 0 → (tsv b n).2.2 = 0 → True) : Listed b n out p e := by
  obtain ⟨h1, h2, h3, h4⟩ := h
  rcases h4 with ⟨h4, h5⟩ | ⟨h4, h5, h6, h7⟩
  · exact ⟨h5, fun e0 => absurd e0 h4, h3, h2⟩
  · rcases hi with hi | hi
    · exact absurd h4 hi
    · subst hi
      rw [Nat.sub_self, tst] at h7
      subst h4
      exact ⟨by rw [← h7], fun _ => by rw [← h7]; exact ⟨rfl, rfl⟩, h3, h2⟩
/-- What Var comes to at the list's head. -/
theorem var_head {b : List Int} (hw : ∀ x ∈ b, 0 ≤ x ∧ x < 256) (hl : b.length ≤ 1000000) (n : Nat) (hn : n ≤ 65536) : ∃ (c m : Nat) (e : Int), Ev (fun k => num_Reader_Var.f k b 0 0 0) ((c : Int), (m : Int), e, 0) ∧ c < 18446744073709551616 ∧ m ≤ b.length ∧
    (n < c → e = 0 ∧ (tsv b n).2.2 = 5) ∧ (c ≤ n → LInv b n c 0 [] m e) := by
  have hl2 : b.length < 4611686018427387904 := by omega
  rcases sh_cases b 0 0 hw (by omega) (by decide) with h | h | ⟨v, m, h, g1, g2, hv⟩
  · rw [← List.drop_zero (l := b)] at h
    have hv := nvar_err (on := 0) hw hl2 (Nat.zero_le _) (.inl rfl) h
    rw [List.drop_zero] at h
    refine ⟨0, 0, 2, hv, by decide, Nat.zero_le _, fun h => absurd h (by omega), fun _ => ⟨Nat.le_refl _, by simp, Nat.zero_le _, .inl ⟨by decide, ?_⟩⟩⟩
    unfold tsv; rw [h]; rfl
  · rw [← List.drop_zero (l := b)] at h
    have hv := nvar_err (on := 0) hw hl2 (Nat.zero_le _) (.inr rfl) h
    rw [List.drop_zero] at h
    refine ⟨0, 0, 4, hv, by decide, Nat.zero_le _, fun h => absurd h (by omega), fun _ => ⟨Nat.le_refl _, by simp, Nat.zero_le _, .inl ⟨by decide, ?_⟩⟩⟩
    unfold tsv; rw [h]; rfl
  · rw [← List.drop_zero (l := b)] at h
    have ok1 := nvar_ok (on := 0) hw hl2 (Nat.zero_le _) h (by omega)
    rw [List.drop_zero] at h
    rw [Nat.zero_add] at ok1
    have ht : tsv b n = if (v : Int) > n then ([], 0, 5) else tst b v m [] := by unfold tsv; rw [h]; rfl
    refine ⟨v, m, 0, ok1, hv, by omega, fun c => ⟨rfl, by rw [ht, if_pos (by omega)]⟩, fun c => ⟨Nat.zero_le _, by simp, by omega, .inr ⟨rfl, rfl, by omega, by rw [ht, if_neg (by omega)]; rfl⟩⟩⟩
set_option maxHeartbeats 8000000 in
set_option maxRecDepth 100000 in
theorem txl_any (g : Nat) (b : List Int) (n : Nat) (hw : ∀ x ∈ b, 0 ≤ x ∧ x < 256) (hl : b.length ≤ 1000000) (hn : n ≤ 65536) (w0 w : World) (hI : IsS73 w0 w g b 0 0 0) (hB : Below w0.heap.size w0 w) :
    Calls Tryz.prog 37 #[.pointer (some ⟨g, 0, none⟩), .int .i64 n] w fun e w' => ∃ (v : Value) (L : List ByteArray) (p : Nat) (E o : Int), e = .returned v ∧ Kd.R Kd.string 9 w' w.heap.size (fun _ => True) v L ∧ IsS73 w0 w' g b p E o ∧ Below w0.heap.size w0 w' ∧ KeepBut w w' g none ∧ Listed b n L p E := by
  obtain ⟨c, m, e0, ⟨kv, hkv⟩, hc, hm, hbig, hsmall⟩ := var_head hw hl n hn
  have HV := Aside0.mk (hkv kv (Nat.le_refl _))
  have HS := Aside0.mk hsmall
  have HG := Aside0.mk hbig
  have I0 := Aside0.mk hI
  have B0 := Aside0.mk hB
  have HL := Aside0.mk hB.size
  have hlt := hI.lt
  have HW := Aside0.mk hw
  have HC := Aside0.mk hc
  have HB2 := Aside0.mk hl
  clear hkv hI hB hbig hsmall hw hc hl
  go_enter Tryz.func37, Tryz.ntmps37
  go_wp2
  go_step3
  go_upto_if 17 with (go_at_call 65; (with_reducible refine (num_Reader_Var.calls kv g b 0 0 0 c m e0 0 w0 _ I0.out B0.out HV.out).mono ?_); rintro e w1 ⟨rfl, hi, hb, hk⟩; have I1 := Aside0.mk hi; have B1 := Aside0.mk hb; have K1 := Aside0.mk hk; clear hi hb hk I0 B0)
  go_cut [] (fun wx => ∃ (p : Nat) (e o : Int), Aside0 (LInv b n c 0 [] p e) ∧ Aside0 (IsS73 w0 wx g b p e o) ∧ Aside0 (Below w0.heap.size w0 wx) ∧ Aside0 (KeepBut w wx g none))
  case first =>
    by_cases hcn : n < c
    · obtain ⟨rfl, hT⟩ := HG.out hcn
      have HT := Aside0.mk hT
      have c1 : decide ((n : Int) < (c : Int)) = true := decide_eq_true (by omega)
      clear hT HG HS HV
      go_wp2_with (go_at_call 39; (with_reducible refine (num_Reader_Fail.calls g b m 0 0 5 m 5 m w0 _ I1.out B1.out rfl).mono ?_); rintro e_ w2 ⟨rfl, hi, hb, hk⟩; have I2 := Aside0.mk hi; have B2 := Aside0.mk hb; have K2 := Aside0.mk (K1.out.trans hk (.inl rfl)); clear hi hb hk)
      go_meet
      exact ⟨m, 5, m, ⟨⟨Nat.zero_le _, by simp, hm, .inl ⟨by decide, HT.out.symm⟩⟩⟩, I2, B2, K2⟩
    · have c1 : decide ((n : Int) < (c : Int)) = false := decide_eq_false (by omega)
      have H2 := Aside0.mk (HS.out (by omega))
      clear HG HS HV
      go_wp2
      go_meet
      exact ⟨m, e0, 0, H2, I1, B1, K1⟩
  case rest =>
    obtain ⟨p1, e1, o1, H1, I2, B2, K2⟩ := hcut
    clear HG HS HV I1 B1 K1
    go_wp2
    repeat (go_step3; try go_wp2)
    go_loopw [6, 21] (fun v6 v21 wr => ∃ (i : Nat) (out : List ByteArray) (p : Nat) (e o : Int), v21 = .int .u64 i ∧ Aside0 (LInv b n c i out p e) ∧ Aside0 (Kd.R Kd.string 9 wr w.heap.size (fun _ => True) v6 out) ∧ Aside0 (IsS73 w0 wr g b p e o) ∧ Aside0 (Below w0.heap.size w0 wr) ∧ Aside0 (KeepBut w wr g none)) (fun _ v21 _ => c - (intOf v21).toNat)
    case atStart => exact ⟨0, [], p1, e1, o1, rfl, H1, ⟨Kd.R_nil _ _ _ _ _⟩, I2, B2, K2⟩
    case round =>
      clear H1 I2 B2 K2
      obtain ⟨i, out, p, e, o, rfl, HI, RO, I3, B3, K3⟩ := hrel
      by_cases hic : i < c
      · have c2 : decide ((i : Int) < (c : Int)) = true := decide_eq_true (by omega)
        by_cases he : e = 0
        · subst he
          have hp := HI.out.2.2.1
          obtain ⟨ob, kb, hkb⟩ := nblob HW.out HB2.out hp o
          have HBl := Aside0.mk (HI.out.blob hic HW.out)
          have hol := HI.out.2.1
          obtain ⟨Ao, co, rfl⟩ := Kd.R_slice RO.out
          have hF := hkb kb (Nat.le_refl _)
          generalize blb b p = BB at hF HBl
          obtain ⟨bs, p2, e2⟩ := BB
          dsimp only at hF HBl
          have FB := Aside0.mk hF
          clear hF hkb HI
          go_upto_region 11 with (first
            | (go_at_call 35; (with_reducible refine (num_Reader_Err.calls g b p 0 o 0 o p 0 o w0 _ I3.out B3.out rfl).mono ?_); rintro e_ w4 ⟨rfl, hi, hb, hk⟩; have R4 := Aside0.mk (R_rd I3.out RO.out hk); have I4 := Aside0.mk hi; have B4 := Aside0.mk hb; have K4 := Aside0.mk (K3.out.trans hk (.inl rfl)); clear hi hb hk RO I3 B3 K3)
            | (go_at_call 66; (with_reducible refine (num_Reader_Blob.calls kb g b p 0 o 65536 bs p2 e2 ob w0 _ I4.out B4.out FB.out).mono ?_); rintro e_ w5 ⟨v5, rfl, hR5, hi, hb, hk⟩; have hcv := own_string (P := Tryz.prog) Tryz.underlying25 Tryz.underlying5 Tryz.underlying9 (Kd.own_of_R hR5); have R5 := Aside0.mk (R_rd I4.out R4.out hk); have I5 := Aside0.mk hi; have B5 := Aside0.mk hb; have K5 := Aside0.mk (K4.out.trans hk (.inl rfl)); clear hi hb hk hR5 R4 I4 B4 K4)
            | (go_at_call 35; (with_reducible refine (num_Reader_Err.calls g b p2 e2 ob e2 ob p2 e2 ob w0 _ I5.out B5.out rfl).mono ?_); rintro e_ w6 ⟨rfl, hi, hb, hk⟩; have R6 := Aside0.mk (R_rd I5.out R5.out hk); have I6 := Aside0.mk hi; have B6 := Aside0.mk hb; have K6 := Aside0.mk (K5.out.trans hk (.inl rfl)); clear hi hb hk R5 I5 B5 K5))
          go_cut [54] (fun v54 wx => ∃ bb : Bool, v54 = .bool bb ∧ Aside0 (bb = false → LInv b n c (i + 1) (out ++ [strOfNums bs]) p2 e2) ∧ Aside0 (bb = true → e2 = 0 ∧ LInv b n c (i + 1) (out ++ [strOfNums bs]) p2 4) ∧ Aside0 (Kd.R Kd.string 9 wx w.heap.size (fun _ => True) (.slice Ao out.length co) out) ∧ Aside0 (IsS73 w0 wx g b p2 e2 ob) ∧ Aside0 (Below w0.heap.size w0 wx) ∧ Aside0 (KeepBut w wx g none))
          case first =>
            have hcase : e2 ≠ 0 ∨ e2 = 0 ∧ out.length = 0 ∨ e2 = 0 ∧ ¬ out.length = 0 ∧ rises out (strOfNums bs) ∨ e2 = 0 ∧ ¬ out.length = 0 ∧ ¬ rises out (strOfNums bs) := by
              by_cases a1 : e2 = 0
              · by_cases a2 : out.length = 0
                · exact .inr (.inl ⟨a1, a2⟩)
                · by_cases a3 : rises out (strOfNums bs)
                  · exact .inr (.inr (.inl ⟨a1, a2, a3⟩))
                  · exact .inr (.inr (.inr ⟨a1, a2, a3⟩))
              · exact .inl a1
            rcases hcase with he2 | ⟨rfl, hz⟩ | ⟨rfl, hz, hri⟩ | ⟨rfl, hz, hri⟩
            · have c4 : (e2 == 0) = false := beq_eq_false_iff_ne.2 he2
              have HN := Aside0.mk (HBl.out.1 he2)
              clear HBl
              go_wp2
              go_meet
              exact ⟨false, rfl, ⟨fun _ => HN.out⟩, ⟨fun h => absurd h (by decide)⟩, R6, I6, B6, K6⟩
            · have HN := Aside0.mk (HBl.out.2.1 rfl (by rw [List.eq_nil_of_length_eq_zero hz]; exact rises_nil _))
              have c4 : decide ((0 : Int) < (out.length : Int)) = false := decide_eq_false (by omega)
              have hz2 : ¬ 0 < out.length := by omega
              clear HBl hz
              go_wp2
              go_meet
              exact ⟨false, rfl, ⟨fun _ => HN.out⟩, ⟨fun h => absurd h (by decide)⟩, R6, I6, B6, K6⟩
            · have HN := Aside0.mk (HBl.out.2.1 rfl hri)
              obtain ⟨hz1, hz2⟩ := rises_cons hz (strOfNums bs)
              have c4 : decide ((0 : Int) < (out.length : Int)) = true := decide_eq_true (by omega)
              obtain ⟨y, hy⟩ : ∃ y, rdOf ByteArray.empty out ((out.length : Int) - 1) = y := ⟨_, rfl⟩
              have HY := Aside0.mk hy
              have hyo : out[out.length - 1] = y := by rw [← hy]; unfold rdOf; rw [show ((out.length : Int) - 1).toNat = out.length - 1 from by omega, List.getD_eq_getElem?_getD, List.getElem?_eq_getElem hz1]; rfl
              have c5 : Op.bytesLess y.toList (strOfNums bs).toList = true := by rw [less_tb]; exact decide_eq_true (hyo ▸ hz2.1 hri)
              have hgt : 0 < out.length := by omega
              clear HBl hz2 hri hy hyo hz1
              obtain ⟨ad, ea, q0⟩ := Kd.at_string (Kd.R_reads' R6.out).2.2 ((out.length : Int) - 1) (by omega) (by omega)
              subst ea
              rw [show ((out.length : Int) - 1).toNat = out.length - 1 from by omega, HY.out] at q0
              go_wp2
              go_meet
              exact ⟨false, rfl, ⟨fun _ => HN.out⟩, ⟨fun h => absurd h (by decide)⟩, R6, I6, B6, K6⟩
            · have HN := Aside0.mk (HBl.out.2.2 rfl hri)
              obtain ⟨hz1, hz2⟩ := rises_cons hz (strOfNums bs)
              have c4 : decide ((0 : Int) < (out.length : Int)) = true := decide_eq_true (by omega)
              obtain ⟨y, hy⟩ : ∃ y, rdOf ByteArray.empty out ((out.length : Int) - 1) = y := ⟨_, rfl⟩
              have HY := Aside0.mk hy
              have hyo : out[out.length - 1] = y := by rw [← hy]; unfold rdOf; rw [show ((out.length : Int) - 1).toNat = out.length - 1 from by omega, List.getD_eq_getElem?_getD, List.getElem?_eq_getElem hz1]; rfl
              have c5 : Op.bytesLess y.toList (strOfNums bs).toList = false := by rw [less_tb]; exact decide_eq_false (fun h => hri (hz2.2 (by rw [hyo]; exact h)))
              have hgt : 0 < out.length := by omega
              clear HBl hz2 hri hy hyo hz1
              obtain ⟨ad, ea, q0⟩ := Kd.at_string (Kd.R_reads' R6.out).2.2 ((out.length : Int) - 1) (by omega) (by omega)
              subst ea
              rw [show ((out.length : Int) - 1).toNat = out.length - 1 from by omega, HY.out] at q0
              go_wp2
              go_meet
              exact ⟨true, rfl, ⟨fun h => absurd h (by decide)⟩, ⟨fun _ => ⟨by first | trivial | rfl, HN.out⟩⟩, R6, I6, B6, K6⟩
          case rest =>
            obtain ⟨bb, rfl, HN0, HN1, R6, I6, B6, K6⟩ := hcut
            cases bb
            · have HN := Aside0.mk (HN0.out rfl)
              clear HN0 HN1
              go_wp2_with ((with_reducible refine gate_builtin (b := .append) (xs := #[.tmp 57, .tmp 59]) rfl ?_); at_builtin; refine Kd.R_append Kd.string w.heap.size rfl (.tmp 57) (.tmp 59) 52 9 (.string ⟨#[]⟩) 16 rfl Tryz.underlying52 info9 rfl (by decide) (by decide) _ out (strOfNums bs) [.string (strOfNums bs)] (fun _ => True) (fun _ => False) rfl rfl rfl (fun _ h => h.elim) (fun _ _ => trivial) R6.out (Below.refl _ _) K6.out.1 (by omega) ?_; intro v7 w7 hR7 hB7 hg7 _)
              have e1 : IntKind.u64.wrap ((i : Int) + 1) = ((i + 1 : Nat) : Int) := by have := HC.out; rw [u64w_id (by omega) (by omega)]; omega
              rw [e1]
              exact ⟨⟨i + 1, out ++ [strOfNums bs], p2, e2, ob, rfl, HN, ⟨hR7⟩, ⟨IsS73.grown I6.out hg7 (IsS73.own_ne I6.out R6.out (by decide))⟩, ⟨below_weaken B6.out HL.out hB7⟩, ⟨K6.out.trans (KeepBut.of_grown hg7 g) (Kd.R_base2 R6.out)⟩⟩, by simp [intOf]; omega⟩
            · obtain ⟨rfl, hn⟩ := HN1.out rfl
              have HN := Aside0.mk hn
              clear HN0 HN1 hn
              go_wp2_with (first
                | (go_at_call 39; (with_reducible refine (num_Reader_Fail.calls g b p2 0 ob 4 p2 4 p2 w0 _ I6.out B6.out rfl).mono ?_); rintro e_ w7 ⟨rfl, hi, hb, hk⟩; have R7 := Aside0.mk (R_rd I6.out R6.out hk); have I7 := Aside0.mk hi; have B7 := Aside0.mk hb; have K7 := Aside0.mk (K6.out.trans hk (.inl rfl)); clear hi hb hk R6 I6 B6 K6; have R6 := R7; have I6 := I7; have B6 := B7; have K6 := K7; clear R7 I7 B7 K7)
                | ((with_reducible refine gate_builtin (b := .append) (xs := #[.tmp 57, .tmp 59]) rfl ?_); at_builtin; refine Kd.R_append Kd.string w.heap.size rfl (.tmp 57) (.tmp 59) 52 9 (.string ⟨#[]⟩) 16 rfl Tryz.underlying52 info9 rfl (by decide) (by decide) _ out (strOfNums bs) [.string (strOfNums bs)] (fun _ => True) (fun _ => False) rfl rfl rfl (fun _ h => h.elim) (fun _ _ => trivial) R6.out (Below.refl _ _) K6.out.1 (by omega) ?_; intro v7 w7 hR7 hB7 hg7 _))
              have e1 : IntKind.u64.wrap ((i : Int) + 1) = ((i + 1 : Nat) : Int) := by have := HC.out; rw [u64w_id (by omega) (by omega)]; omega
              rw [e1]
              exact ⟨⟨i + 1, out ++ [strOfNums bs], p2, 4, p2, rfl, HN, ⟨hR7⟩, ⟨IsS73.grown I6.out hg7 (IsS73.own_ne I6.out R6.out (by decide))⟩, ⟨below_weaken B6.out HL.out hB7⟩, ⟨K6.out.trans (KeepBut.of_grown hg7 g) (Kd.R_base2 R6.out)⟩⟩, by simp [intOf]; omega⟩
        · have c3 : (e != 0) = true := bne_iff_ne.2 he
          have HD := Aside0.mk (HI.out.done (.inl he) (fun _ _ => trivial))
          go_wp2_with (go_at_call 35; (with_reducible refine (num_Reader_Err.calls g b p e o e o p e o w0 _ I3.out B3.out rfl).mono ?_); rintro e_ w4 ⟨rfl, hi, hb, hk⟩; have R4 := Aside0.mk (R_rd I3.out RO.out hk); have I4 := Aside0.mk hi; have B4 := Aside0.mk hb; have K4 := Aside0.mk (K3.out.trans hk (.inl rfl)); clear hi hb hk)
          repeat (go_step3; try go_wp2)
          simp only [Exit.noGoto_ret]
          go_ret
          exact ⟨_, out, p, e, o, rfl, R4.out, I4.out, B4.out, K4.out, HD.out⟩
      · have c2 : decide ((i : Int) < (c : Int)) = false := decide_eq_false (by omega)
        have hic2 : i = c := by have := HI.out.1; omega
        have HD := Aside0.mk (HI.out.done (.inr hic2) (fun _ _ => trivial))
        go_wp2
        repeat (go_step3; try go_wp2)
        simp only [Exit.noGoto_ret]
        go_ret
        exact ⟨_, out, p, e, o, rfl, RO.out, I3.out, B3.out, K3.out, HD.out⟩
end Go.Proofs.YtehbkhddbdgbcaaGreatDoor.Ch
namespace Go.Proofs.YtehbkhddbdgbcaaGreatDoor.Ch
open Go.RowKit Go.Proofs.YtehbkhddbdgbcaaGreatDoorW.PrintWords Go.Proofs.YtehbkhddbdgbcaaGreatDoorW.PrintLast Go.Proofs.YtehbkhddbdgbcaaGreatDoorW.PrintMore Go.Proofs.YtehbkhddbdgbcaaGreatDoor.PChunkBack Go.Proofs.YtehbkhddbdgbcaaGreatDoor.Pure
attribute [local go_sem] max2_int min2_int max_two min_two max_three min_three max_four min_four
set_option linter.unusedVariables false
set_option linter.unusedSimpArgs false
/-- What stands behind the list and the byte of the width. -/
def txAfter (b : List Int) (n : Int) (L : List ByteArray) (wv : Int) (p : Nat) (e : Int) : Prop :=
  e ≠ 0 ∧ textv b n = ([], e) ∨ e = 0 ∧ (wv ≠ (wd L.length : Int) → textv b n = ([], 4)) ∧ (wv = (wd L.length : Int) → textv b n = if (unpacked (b.drop p) n wv).2 = 0 then tpicked L (unpacked (b.drop p) n wv).1 else ([], (unpacked (b.drop p) n wv).2))
theorem tx_fix {b : List Int} (hw : ∀ x ∈ b, 0 ≤ x ∧ x < 256) (hl : b.length ≤ 1000000) {n : Nat} (hn : n ≤ 65536) {L : List ByteArray} {p : Nat} {E o : Int} (h : Listed b n L p E) :
    ∃ (wv : Int) (p2 : Nat) (e2 o2 : Int), Ev (fun k => num_Reader_Fix.f k b p E o 1) (wv, (p2 : Int), e2, o2) ∧ 0 ≤ wv ∧ wv < 256 ∧ p2 ≤ b.length ∧ txAfter b n L wv p2 e2 := by
  have hl4 : b.length ≤ 140737488355328 := by omega
  obtain ⟨h1, h2, h3, h4⟩ := h
  have hr : ¬ ((n : Int) < 0 ∨ (n : Int) > 65536) := by omega
  by_cases hE : E = 0
  · obtain ⟨h5, h6⟩ := h2 hE
    rw [hE] at h1 ⊢
    by_cases hp : p < b.length
    · have hb := hw _ (List.getElem_mem hp)
      refine ⟨b[p], p + 1, 0, o, nfix1_ok hw hl4 hp o, hb.1, hb.2, by omega, .inr ⟨rfl, ?_, ?_⟩⟩
      all_goals
        intro hwd
        subst h5; subst h6
        unfold textv
        rw [if_neg hr, if_pos h1.symm, dif_pos hp]
      · rw [if_neg hwd]
      · rw [if_pos hwd]
    · obtain rfl : p = b.length := by omega
      refine ⟨0, b.length, 2, b.length, nfix1_none (ntake_end hl4 o), by decide, by decide, Nat.le_refl _, .inl ⟨by decide, ?_⟩⟩
      unfold textv
      rw [if_neg hr, if_pos h1.symm, dif_neg (by rw [← h6]; omega)]
  · refine ⟨0, p, E, o, nfix1_none (ntake_none hl4 h3 hE), by decide, by decide, h3, .inl ⟨hE, ?_⟩⟩
    unfold textv
    rw [if_neg hr, if_neg (by rw [← h1]; exact hE), ← h1]
theorem tx_pick {L : List ByteArray} {d : List Int} {i : Nat} (hi : i < d.length) (hd : ∀ x ∈ d.take i, x < (L.length : Int)) (h : d[i] < (L.length : Int)) : ∀ x ∈ d.take (i + 1), x < (L.length : Int) := by
  intro x hx
  rw [List.take_succ_eq_append_getElem hi, List.mem_append, List.mem_singleton] at hx
  rcases hx with hx | rfl
  · exact hd x hx
  · exact h
set_option maxHeartbeats 8000000 in
set_option maxRecDepth 100000 in
theorem txg_any (w : World) (A : Option Addr) (c : Nat) (b : List Int) (n : Int) (hw : ∀ x ∈ b, 0 ≤ x ∧ x < 256) (hl : b.length ≤ 1000000) (hr : Kd.C (Kd.int .u8) w A b.length b) (hc : b.length ≤ c) (hG : HG w) :
    Calls Tryz.prog 21 #[.slice A b.length c, .int .i64 n] w fun e w' => ∃ v, e = .returned (.tuple #[v, .int .i64 (textv b n).2]) ∧ Kd.R Kd.string 9 w' w.heap.size (fun _ => True) v (textv b n).1 ∧ Below w.heap.size w w' := by
  by_cases h0 : n < 0
  · have e : textv b n = ([], 1) := by unfold textv; rw [if_pos (.inl h0)]
    rw [e]
    have c0 : decide (n < 0) = true := decide_eq_true h0
    go_enter Tryz.func21, Tryz.ntmps21
    go_wp2
    go_ret2
    exact ⟨_, rfl, Kd.R_nil _ _ _ _ _, by repeat (first | exact Below.refl _ _ | apply pw_below_drewN | apply below_drew1)⟩
  · by_cases h1 : n > 65536
    · have e : textv b n = ([], 1) := by unfold textv; rw [if_pos (.inr h1)]
      rw [e]
      have c0 : decide (n < 0) = false := decide_eq_false h0
      have c1 : decide (65536 < n) = true := decide_eq_true h1
      go_enter Tryz.func21, Tryz.ntmps21
      go_wp2
      go_ret2
      exact ⟨_, rfl, Kd.R_nil _ _ _ _ _, by repeat (first | exact Below.refl _ _ | apply pw_below_drewN | apply below_drew1)⟩
    · obtain ⟨N, rfl⟩ := Int.eq_ofNat_of_zero_le (show 0 ≤ n by omega)
      have hN : N ≤ 65536 := by omega
      have c0 : decide ((N : Int) < 0) = false := decide_eq_false h0
      have c1 : decide (65536 < (N : Int)) = false := decide_eq_false h1
      have f0 : num_NewReader.f b = some (b, 0, 0, 0) := by unfold num_NewReader.f; rw [if_pos (by omega)]
      have hNR := Aside0.mk (num_NewReader.calls A c b _ _ _ _ w w (Below.refl _ _) hr hc hG f0)
      have HW := Aside0.mk hw
      have B0 := Aside0.mk (Below.refl w.heap.size w)
      obtain ⟨rl, re, hT⟩ : ∃ rl re, textv b N = (rl, re) := ⟨_, _, rfl⟩
      rw [hT]
      have HTT := Aside0.mk hT
      clear h0 h1 f0 hr hw hT
      go_enter Tryz.func21, Tryz.ntmps21
      go_upto_region 6 with (first
        | (go_at_call 18; (with_reducible refine hNR.out.mono ?_); rintro e w1 ⟨g, rfl, hI, hB, _⟩; have I1 := Aside0.mk hI; have B1 := Aside0.mk hB; clear hI hB)
        | (go_at_call 37; (with_reducible refine (txl_any g b N HW.out hl hN w _ I1.out B1.out).mono ?_); rintro e w2 ⟨v2, L, p, E, o, rfl, hR, hI, hB, hK, hLd⟩; obtain ⟨fx, p2, e2, o2, ⟨kf, hkf⟩, hw0, hw1, hp2, hA2⟩ := tx_fix HW.out hl hN (o := o) hLd; obtain ⟨AL, cL, rfl⟩ := Kd.R_slice hR; have hLn := hLd.2.2.2; have FX := Aside0.mk (hkf kf (Nat.le_refl _)); have A2 := Aside0.mk hA2; have R2 := Aside0.mk (Kd.R_lower hR B1.out.size); have I2 := Aside0.mk hI; have B2 := Aside0.mk hB; clear hR hI hB hK hLd hA2 hkf I1 B1 hNR)
        | (go_at_call 33; (with_reducible refine (num_Reader_Fix.calls kf g b p E o 1 fx p2 e2 o2 w _ I2.out B2.out FX.out).mono ?_); rintro e w3 ⟨rfl, hI, hB, hK⟩; have R3 := Aside0.mk (Kd.R_mono (Kd.R_keep (IsS73.apart I2.out R2.out (by decide)) hK (fun _ h => h.2)) (fun _ h => h.1)); have I3 := Aside0.mk hI; have B3 := Aside0.mk hB; clear hI hB hK R2 I2 B2))
      have hwx : IntKind.i64.wrap fx = fx := by rw [i64_w, w64 (by omega) (by omega)]
      have hwd := Aside0.mk (texts_width_f L.length hLn)
      go_upto_if 35 with (go_at_call 38; (with_reducible refine (texts_width.calls (L.length : Int) (wd L.length : Int) _ hwd.out).mono ?_); rintro e_ w4 ⟨rfl, hb⟩; have R4 := Aside0.mk (Kd.R_below R3.out hb); have I4 := Aside0.mk (I3.out.below hb); have B4 := Aside0.mk (below_step B3.out hb); clear hb R3 I3 B3)
      go_cut [] (fun wx => ∃ (e3 o3 : Int), Aside0 (e3 ≠ 0 ∧ textv b N = ([], e3) ∨ e3 = 0 ∧ textv b N = if (unpacked (b.drop p2) N fx).2 = 0 then tpicked L (unpacked (b.drop p2) N fx).1 else ([], (unpacked (b.drop p2) N fx).2)) ∧ Aside0 (Kd.R Kd.string 9 wx w.heap.size (fun _ => True) (.slice AL L.length cL) L) ∧ Aside0 (IsS73 w wx g b p2 e3 o3) ∧ Aside0 (Below w.heap.size w wx))
      case first =>
        by_cases hx : fx = (wd L.length : Int)
        · have c4 : (fx != (wd L.length : Int)) = false := by rw [hx]; exact bne_self_eq_false _
          have H3 : Aside0 (e2 ≠ 0 ∧ textv b N = ([], e2) ∨ e2 = 0 ∧ textv b N = if (unpacked (b.drop p2) N fx).2 = 0 then tpicked L (unpacked (b.drop p2) N fx).1 else ([], (unpacked (b.drop p2) N fx).2)) := ⟨A2.out.imp id (fun h => ⟨h.1, h.2.2 hx⟩)⟩
          clear hx A2
          go_wp2
          go_meet
          exact ⟨e2, o2, H3, R4, I4, B4⟩
        · have c4 : (fx != (wd L.length : Int)) = true := bne_iff_ne.2 hx
          obtain ⟨e3, o3, hf, h3⟩ : ∃ e3 o3, num_Reader_Fail.f b p2 e2 o2 4 = some ((p2 : Int), e3, o3) ∧ (e3 ≠ 0 ∧ textv b N = ([], e3)) := by
            unfold num_Reader_Fail.f num_Reader_Fail.next
            rcases A2.out with ⟨h1, h2⟩ | ⟨h1, h2, _⟩
            · exact ⟨e2, o2, by rw [if_neg (fun h => h1 h.1)], h1, h2⟩
            · exact ⟨4, p2, by rw [if_pos ⟨h1, by decide⟩], by decide, h2 hx⟩
          have HF := Aside0.mk hf
          have H3 := Aside0.mk h3
          clear hx A2 hf h3
          go_wp2_with (go_at_call 39; (with_reducible refine (num_Reader_Fail.calls g b p2 e2 o2 4 p2 e3 o3 w _ I4.out B4.out HF.out).mono ?_); rintro e_ w5 ⟨rfl, hI, hB, hK⟩; have R5 := Aside0.mk (R_rd I4.out R4.out hK); have I5 := Aside0.mk hI; have B5 := Aside0.mk hB; clear hI hB hK)
          go_meet
          exact ⟨e3, o3, ⟨.inl H3.out⟩, R5, I5, B5⟩
      case rest =>
        obtain ⟨e3, o3, H3, R5, I5, B5⟩ := hcut
        clear A2 R4 I4 B4 hwd FX
        rcases H3.out with ⟨h1, h2⟩ | ⟨rfl, h2⟩
        · have h3 := HTT.out.symm.trans h2
          injection h3 with q1 q2
          subst q1
          subst q2
          have c5 : (re != 0) = true := bne_iff_ne.2 h1
          clear H3 h2 HTT
          go_wp2_with (go_at_call 35; (with_reducible refine (num_Reader_Err.calls g b p2 re o3 re o3 p2 re o3 w _ I5.out B5.out rfl).mono ?_); rintro e_ w6 ⟨rfl, hI, hB, hK⟩; have B6 := Aside0.mk hB; clear hI hB hK)
          go_ret2
          exact ⟨_, rfl, Kd.R_nil _ _ _ _ _, B6.out⟩
        · obtain ⟨ku, hku⟩ := unpack_f (b.drop p2) (drop_bytes HW.out p2) N fx
          have hFU := hku ku (Nat.le_refl _)
          have huo := @unpacked_ok (b.drop p2) N fx
          have hT := ntake_all (show b.length ≤ 140737488355328 by omega) hp2 o3
          have hL := nleft (show b.length ≤ 140737488355328 by omega) hp2
          generalize unpacked (b.drop p2) N fx = U at hFU huo h2
          obtain ⟨d, e4⟩ := U
          dsimp only at hFU huo h2
          generalize b.drop p2 = rst at hFU hT
          have FU := Aside0.mk hFU
          have HT := Aside0.mk hT
          have HL := Aside0.mk hL
          have HU := Aside0.mk huo
          have H2 := Aside0.mk (HTT.out.symm.trans h2)
          clear hku hFU hT hL huo H3 h2 HTT
          go_upto_region 12 with (first
            | (go_at_call 35; (with_reducible refine (num_Reader_Err.calls g b p2 0 o3 0 o3 p2 0 o3 w _ I5.out B5.out rfl).mono ?_); rintro e_ w6 ⟨rfl, hI, hB, hK⟩; have R6 := Aside0.mk (R_rd I5.out R5.out hK); have I6 := Aside0.mk hI; have B6 := Aside0.mk hB; clear hI hB hK R5 I5 B5)
            | (go_at_call 23; (with_reducible refine (num_Reader_Left.calls g b p2 0 o3 _ _ _ _ w _ I6.out B6.out rfl).mono ?_); rintro e_ w7 ⟨rfl, hI, hB, hK⟩; have R7 := Aside0.mk (R_rd I6.out R6.out hK); have I7 := Aside0.mk hI; have B7 := Aside0.mk hB; clear hI hB hK R6 I6 B6; rw [HL.out])
            | (go_at_call 22; (with_reducible refine (num_Reader_Take.calls g b p2 0 o3 _ _ _ _ _ w _ I7.out B7.out HT.out).mono ?_); rintro e_ w8 ⟨v8, rfl, hR8, hI, hB, hK⟩; obtain ⟨A8, c8, rfl⟩ := Kd.R_slice hR8; have C8 := Aside0.mk (Kd.R_reads' hR8).2.2; have L8 := Aside0.mk (Kd.R_reads' hR8).2.1; have R8 := Aside0.mk (R_rd I7.out R7.out hK); have B8 := Aside0.mk hB; clear hR8 hI hB hK R7 I7 B7)
            | (go_at_call 40; (with_reducible refine (bits_Unpack.calls ku A8 c8 rst N fx d e4 _ C8.out L8.out FU.out).mono ?_); rintro e_ w9 ⟨v9, rfl, hR9, hb⟩; obtain ⟨A9, c9, rfl⟩ := Kd.R_slice hR9; have D9 := Aside0.mk (Kd.R_lower hR9 B8.out.size); have R9 := Aside0.mk (Kd.R_below R8.out hb); have B9 := Aside0.mk (below_step B8.out hb); clear hR9 hb R8 B8 C8 L8))
          by_cases h4 : e4 = 0
          · subst h4
            have H4 := Aside0.mk (H2.out.trans (if_pos rfl))
            clear H2
            obtain ⟨hdl, hdb, _, _⟩ := HU.out rfl
            have hdn : d.length ≤ 65536 := by omega
            have e0 : usedOf L.length (d.take 0) = List.replicate (L.length : Int).toNat false := by rw [List.take_zero, Int.toNat_natCast]; simp [usedOf, List.map_const']
            have eL : IntKind.u64.wrap (L.length : Int) = (L.length : Int) := u64w_id (by omega) (by omega)
            have HE := Aside0.mk e0
            clear e0
            go_wp2_with ((with_reducible refine gate_dst (N := 61) rfl ?_); refine Kd.R_make Kd.bool w.heap.size 4 rfl (N := 61) rfl 86 _ _ rfl (L.length : Int) rfl rfl Tryz.underlying86 (.bool false) 1 info4 rfl (by decide) (by omega) false (ok := fun _ => True) (okp := fun _ => True) rfl (fun _ hk => hk) trivial (by omega) (Nat.le_trans (Nat.mul_le_mul_right _ (show (L.length : Int).toNat ≤ 281474976710656 by omega)) (by omega)) B9.out B9.out.size ?_; intro v10 w10 hR10 hb hg_ hnew_; rw [← HE.out] at hR10; have U10 := Aside0.mk hR10; have B10 := Aside0.mk hb; have D10 := Aside0.mk (Kd.R_over' (v := .slice none 0 0) D9.out (fun k hk => by cases hk) (e' := 4) (by decide) hg_); have R10 := Aside0.mk (Kd.R_over' (v := .slice none 0 0) R9.out (fun k hk => by cases hk) (e' := 4) (by decide) hg_); clear hR10 hb hg_ hnew_ D9 R9 B9)
            clear HE
            go_loopw [14, 64] (fun v14 v64 wr => ∃ i : Nat, i ≤ d.length ∧ v64 = .int .i64 i ∧ Aside0 (∀ x ∈ d.take i, x < (L.length : Int)) ∧ Aside0 (Kd.R Kd.bool 4 wr w.heap.size (fun _ => True) v10 (usedOf L.length (d.take i))) ∧ Aside0 (Kd.R Kd.string 9 wr w.heap.size (fun k => True ∧ some k ≠ v14.ownBlock) (.slice AL L.length cL) L) ∧ Aside0 (Kd.R Kd.string 9 wr w.heap.size (fun _ => True) v14 ((d.take i).map (rdOf ByteArray.empty L))) ∧ Aside0 (Kd.R (Kd.int .u64) 75 wr w.heap.size (fun _ => True) (.slice A9 d.length c9) d) ∧ Aside0 (Below w.heap.size w wr)) (fun _ v64 _ => d.length - (intOf v64).toNat)
            case atStart => exact ⟨0, Nat.zero_le _, rfl, ⟨fun x hx => by rw [List.take_zero] at hx; cases hx⟩, U10, ⟨Kd.R_mono R10.out (fun k _ => ⟨trivial, by simp [Value.ownBlock]⟩)⟩, ⟨Kd.R_nil _ _ _ _ _⟩, D10, B10⟩
            case round =>
              clear U10 B10 D10 R10
              obtain ⟨i, hi, rfl, HP, UR, LR, OR, DR, BR⟩ := hrel
              by_cases hlt : i < d.length
              · have hmem := List.getElem_mem hlt
                obtain ⟨q, hq⟩ := Int.eq_ofNat_of_zero_le (hdb d[i] hmem).1
                have HQ := Aside0.mk hq
                obtain ⟨ad, ea, q0⟩ := Kd.at_int (Kd.R_reads' DR.out).2.2 (i : Int) (by omega) (by omega)
                subst ea
                rw [Int.toNat_natCast, rd_get hlt, hq] at q0
                have HM := Aside0.mk hmem
                have HDB := Aside0.mk hdb
                clear hq hmem hdb
                by_cases hbig : q < L.length
                · have c7 : decide ((L.length : Int) ≤ (q : Int)) = false := decide_eq_false (by omega)
                  have hul := usedOf_length L.length (d.take i)
                  obtain ⟨go, co, eo, gb, gl, HG⟩ := Kd.R_form UR.out (by omega)
                  rw [hul] at eo
                  subst eo
                  obtain ⟨hx0, hf0⟩ := Kd.R_celln false UR.out (q : Int) (by omega) (by omega)
                  rw [Int.toNat_natCast] at hx0 hf0
                  have HPut := Kd.R_putg UR.out (q : Int) true
                  rw [Int.toNat_natCast] at HPut
                  have HPU := Aside0.mk HPut
                  obtain ⟨y, hy⟩ : ∃ y, rdOf ByteArray.empty L (q : Int) = y := ⟨_, rfl⟩
                  have HY := Aside0.mk hy
                  have GB := Aside0.mk gb
                  have HUL := Aside0.mk hul
                  clear HPut hy HG gl gb hul
                  go_wp2_with (first
                    | ((with_reducible refine gate_store (t := 4) (p := 75) rfl ?_); refine store_event (t := 4) (p := 75) (v := ?vo) (w1 := (wr.setCell ⟨go, q, none⟩ (.bool true))) ?hg ?ho ?hn ?hr ?_; (case ho => rfl); (case hg => rfl); (case hn => rfl); (case hr => first | (go_simp; done) | (go_simp; rfl)); intro w11 hw; have hg : wr.grownBy w11 (some go) := (by rw [hw]; exact HPU.out.2); have U11 := Aside0.mk (show Kd.R Kd.bool 4 w11 w.heap.size (fun _ => True) (.slice (some ⟨go, 0, none⟩) L.length co) ((usedOf L.length (d.take i)).set q true) from (by rw [hw]; exact HPU.out.1)); have L11 := Aside0.mk (Kd.R_over' (v := .slice (some ⟨go, 0, none⟩) L.length co) LR.out (Kd.R_typed UR.out) (by decide) hg); have O11 := Aside0.mk (Kd.R_over' (v := .slice (some ⟨go, 0, none⟩) L.length co) OR.out (Kd.R_typed UR.out) (by decide) hg); have D11 := Aside0.mk (Kd.R_over' (v := .slice (some ⟨go, 0, none⟩) L.length co) DR.out (Kd.R_typed UR.out) (by decide) hg); have B11 := Aside0.mk (show Below w.heap.size w w11 from (by rw [hw]; exact below_set BR.out GB.out)); obtain ⟨al, el, l0⟩ := Kd.at_string (Kd.R_reads' L11.out).2.2 (q : Int) (by omega) (by omega); subst el; rw [Int.toNat_natCast, HY.out] at l0; clear hg hw HPU UR LR OR DR BR hx0 hf0 q0)
                    | ((with_reducible refine gate_builtin (b := .append) (xs := #[.tmp 76, .tmp 81]) rfl ?_); at_builtin; refine Kd.R_append Kd.string (w0 := w) w.heap.size rfl (.tmp 76) (.tmp 81) 52 9 (.string ⟨#[]⟩) 16 rfl Tryz.underlying52 info9 rfl (by decide) (by decide) _ ((d.take i).map (rdOf ByteArray.empty L)) y [.string y] (fun _ => True) (fun _ => False) rfl rfl rfl (fun _ h => h.elim) (fun _ _ => trivial) O11.out B11.out B11.out.size (by rw [List.length_map, List.length_take]; omega) ?_; intro v12 w12 hR12 hB12 hg12 hat12))
                  have hm : d.take (i + 1) = d.take i ++ [d[i]] := List.take_succ_eq_append_getElem hlt
                  have hus := usedOf_set L.length (d.take i) q
                  refine ⟨⟨i + 1, by omega, rfl, ⟨tx_pick hlt HP.out (by rw [HQ.out]; omega)⟩, ⟨by rw [hm, HQ.out, ← hus]; exact Kd.R_over' U11.out (Kd.R_typed O11.out) (by decide) hg12⟩, ⟨Kd.R_after (ok := fun _ => True) L11.out hg12 hat12⟩, ⟨by rw [hm, HQ.out, List.map_append, List.map_cons, List.map_nil, HY.out]; exact hR12⟩, ⟨Kd.R_over' D11.out (Kd.R_typed O11.out) (by decide) hg12⟩, ⟨hB12⟩⟩, by simp [intOf]; omega⟩
                · have c7 : decide ((L.length : Int) ≤ (q : Int)) = true := decide_eq_true (by omega)
                  have h5 : tpicked L d = ([], 5) := by unfold tpicked; rw [if_pos ⟨d[i], HM.out, by rw [HQ.out]; omega⟩]
                  have h6 := H4.out.trans h5
                  injection h6 with q1 q2
                  subst q1
                  subst q2
                  clear h5 H4
                  go_wp2
                  go_ret2
                  exact ⟨_, rfl, Kd.R_nil _ _ _ _ _, BR.out⟩
              · have hie : i = d.length := by omega
                subst hie
                have ht : d.take d.length = d := List.take_length
                rw [ht] at HP UR OR
                have hul := usedOf_length L.length d
                obtain ⟨kc, hkc⟩ := contains_f (usedOf L.length d) (by rw [hul]; omega)
                obtain ⟨A10, c10, rfl⟩ := Kd.R_slice UR.out
                have hC := Kd.R_reads' UR.out
                have HC := Aside0.mk (slices_Contains_bool_bool.calls kc A10 c10 (usedOf L.length d) false _ wr hC.2.2 hC.2.1 (hkc kc (Nat.le_refl _)))
                have hne : ¬ ∃ x ∈ d, x ≥ (L.length : Int) := by rintro ⟨x, hx, h⟩; have := HP.out x hx; omega
                have hp : (rl, re) = if ∀ j, j < L.length → (j : Int) ∈ d then (d.map (rdOf ByteArray.empty L), 0) else ([], 4) := by rw [H4.out]; unfold tpicked; rw [if_neg hne]
                clear H4 hne hC hkc hul
                by_cases hu : ∀ j, j < L.length → (j : Int) ∈ d
                · have hd : decide (false ∈ usedOf L.length d) = false := decide_eq_false (fun h => (usedOf_false _ _).1 h hu)
                  rw [hd] at HC
                  rw [if_pos hu] at hp
                  injection hp with q1 q2
                  subst q1
                  subst q2
                  clear hu hd
                  go_wp2_with (go_at_call 41; (with_reducible refine HC.out.mono ?_); rintro e_ w11 ⟨rfl, hd⟩; have O11 := Aside0.mk (Kd.R_below OR.out hd.below); have B11 := Aside0.mk (below_step BR.out hd.below); clear hd)
                  go_ret2
                  exact ⟨_, rfl, O11.out, B11.out⟩
                · have hd : decide (false ∈ usedOf L.length d) = true := decide_eq_true ((usedOf_false _ _).2 hu)
                  rw [hd] at HC
                  rw [if_neg hu] at hp
                  injection hp with q1 q2
                  subst q1
                  subst q2
                  clear hu hd
                  go_wp2_with (go_at_call 41; (with_reducible refine HC.out.mono ?_); rintro e_ w11 ⟨rfl, hd⟩; have B11 := Aside0.mk (below_step BR.out hd.below); clear hd)
                  go_ret2
                  exact ⟨_, rfl, Kd.R_nil _ _ _ _ _, B11.out⟩
          · have c6 : (e4 != 0) = true := bne_iff_ne.2 h4
            have h3 := H2.out.trans (if_neg h4)
            injection h3 with q1 q2
            subst q1
            subst q2
            clear h4 H2
            go_wp2
            go_ret2
            exact ⟨_, rfl, Kd.R_nil _ _ _ _ _, B9.out⟩
end Go.Proofs.YtehbkhddbdgbcaaGreatDoor.Ch
namespace Go.Proofs.YtehbkhddbdgbcaaGreatDoor.Ch
open Go.RowKit Go.Proofs.YtehbkhddbdgbcaaGreatDoorW.PrintWords Go.Proofs.YtehbkhddbdgbcaaGreatDoorW.PrintLast Go.Proofs.YtehbkhddbdgbcaaGreatDoorW.PrintMore Go.Proofs.YtehbkhddbdgbcaaGreatDoor.PChunkBack Go.Proofs.YtehbkhddbdgbcaaGreatDoor.Pure
attribute [local go_sem] max2_int min2_int max_two min_two max_three min_three max_four min_four
set_option linter.unusedVariables false
set_option linter.unusedSimpArgs false
/-- What a list of numbers has come to: E is why not (0: it has). -/
def ListedD (b : List Int) (n : Int) (L : List Int) (p : Nat) (E : Int) : Prop := E = (lstv b n).2.2 ∧ (E = 0 → L = (lstv b n).1 ∧ p = (lstv b n).2.1) ∧ p ≤ b.length ∧ L.length ≤ 65536
/-- What holds ahead of round i of c. -/
def DInv (b : List Int) (n : Int) (c i : Nat) (out : List Int) (p : Nat) (e : Int) : Prop :=
  i ≤ c ∧ out.length ≤ 65536 ∧ p ≤ b.length ∧ (e ≠ 0 ∧ e = (lstv b n).2.2 ∨ e = 0 ∧ i = out.length ∧ c ≤ 65536 ∧ lst b (c - i) p out = lstv b n)
/-- What Var comes to at a place. -/
theorem var_step {b : List Int} (hw : ∀ x ∈ b, 0 ≤ x ∧ x < 256) (hl : b.length ≤ 1000000) {p : Nat} (hp : p ≤ b.length) (o : Int) : ∃ (v p2 : Nat) (e2 o2 : Int), Ev (fun k => num_Reader_Var.f k b p 0 o) ((v : Int), (p2 : Int), e2, o2) ∧ v < 18446744073709551616 ∧ p2 ≤ b.length ∧
    (e2 ≠ 0 → (sh (b.drop p) 0 0).2.2 = e2) ∧ (e2 = 0 → (sh (b.drop p) 0 0).1 = v ∧ p2 = p + (sh (b.drop p) 0 0).2.1.toNat ∧ (sh (b.drop p) 0 0).2.2 = 0) := by
  have hl2 : b.length < 4611686018427387904 := by omega
  rcases sh_cases (b.drop p) 0 0 (drop_bytes hw p) (by omega) (by decide) with h | h | ⟨v, m, h, g1, g2, hv⟩
  · exact ⟨0, p, 2, p, nvar_err hw hl2 hp (.inl rfl) h, by decide, hp, fun _ => by rw [h], fun e => by cases e⟩
  · exact ⟨0, p, 4, p, nvar_err hw hl2 hp (.inr rfl) h, by decide, hp, fun _ => by rw [h], fun e => by cases e⟩
  · rw [List.length_drop] at g2
    exact ⟨v, p + m, 0, o, nvar_ok hw hl2 hp h (by omega), hv, by omega, fun e => absurd rfl e, fun _ => by rw [h]; exact ⟨rfl, rfl, rfl⟩⟩
theorem DInv.more {b : List Int} {n : Int} {c i : Nat} {out : List Int} {p : Nat} (h : DInv b n c i out p 0) (hi : i < c) {v p2 : Nat} {e2 : Int} (hp2 : p2 ≤ b.length)
    (h1 : e2 ≠ 0 → (sh (b.drop p) 0 0).2.2 = e2) (h2 : e2 = 0 → (sh (b.drop p) 0 0).1 = v ∧ p2 = p + (sh (b.drop p) 0 0).2.1.toNat ∧ (sh (b.drop p) 0 0).2.2 = 0) :
    i = out.length ∧ (e2 ≠ 0 → ∀ x, DInv b n c (i + 1) (out ++ [x]) p2 e2) ∧
    (e2 = 0 → out.length = 0 → DInv b n c (i + 1) (out ++ [zag v]) p2 0) ∧
    (e2 = 0 → ¬ out.length = 0 → nxt (rd out ((out.length : Int) - 1)) v ≤ rd out ((out.length : Int) - 1) → ∀ x, DInv b n c (i + 1) (out ++ [x]) p2 4) ∧
    (e2 = 0 → ¬ out.length = 0 → ¬ nxt (rd out ((out.length : Int) - 1)) v ≤ rd out ((out.length : Int) - 1) → DInv b n c (i + 1) (out ++ [nxt (rd out ((out.length : Int) - 1)) v]) p2 0) := by
  obtain ⟨q1, q2, q3, q4⟩ := h
  rcases q4 with q4 | ⟨_, q5, q6, q7⟩
  · exact absurd rfl q4.1
  have hlen : ∀ s : Int, (out ++ [s]).length = out.length + 1 := by simp
  rw [show c - i = (c - (i + 1)) + 1 by omega, lst] at q7
  refine ⟨q5, fun e x => ?_, fun e z => ?_, fun e z y x => ?_, fun e z y => ?_⟩
  · rw [if_neg (by rw [h1 e]; exact e)] at q7
    exact ⟨by omega, by rw [hlen]; omega, hp2, .inl ⟨e, by rw [← q7]; exact (h1 e).symm⟩⟩
  · obtain ⟨r1, r2, r3⟩ := h2 e
    rw [if_pos r3, if_pos z, r1, ← r2, Int.toNat_natCast] at q7
    exact ⟨by omega, by rw [hlen]; omega, hp2, .inr ⟨rfl, by rw [hlen]; omega, q6, q7⟩⟩
  · obtain ⟨r1, r2, r3⟩ := h2 e
    rw [if_pos r3, if_neg z, r1, if_pos y] at q7
    exact ⟨by omega, by rw [hlen]; omega, hp2, .inl ⟨by decide, by rw [← q7]⟩⟩
  · obtain ⟨r1, r2, r3⟩ := h2 e
    rw [if_pos r3, if_neg z, r1, if_neg y, ← r2] at q7
    exact ⟨by omega, by rw [hlen]; omega, hp2, .inr ⟨rfl, by rw [hlen]; omega, q6, q7⟩⟩
theorem DInv.done {b : List Int} {n : Int} {c : Nat} {out : List Int} {p i : Nat} {e : Int} (h : DInv b n c i out p e) (hi : i = c) : ListedD b n out p e := by
  obtain ⟨h1, h2, h3, h4⟩ := h
  rcases h4 with ⟨h4, h5⟩ | ⟨h4, h5, h6, h7⟩
  · exact ⟨h5, fun e0 => absurd e0 h4, h3, h2⟩
  · subst hi
    rw [Nat.sub_self, lst] at h7
    subst h4
    exact ⟨by rw [← h7], fun _ => by rw [← h7]; exact ⟨rfl, rfl⟩, h3, h2⟩
theorem DInv.stop {b : List Int} {n : Int} {c : Nat} {out : List Int} {p i : Nat} {e : Int} (h : DInv b n c i out p e) (he : e ≠ 0) : ListedD b n [] p e := by
  obtain ⟨h1, h2, h3, h4⟩ := h
  rcases h4 with ⟨h4, h5⟩ | ⟨h4, _⟩
  · exact ⟨h5, fun e0 => absurd e0 h4, h3, by simp⟩
  · exact absurd h4 he
theorem dc_head {b : List Int} (hw : ∀ x ∈ b, 0 ≤ x ∧ x < 256) (hl : b.length ≤ 1000000) (n : Nat) (hn : n ≤ 65536) : ∃ (c m : Nat) (e o : Int), Ev (fun k => num_Reader_Var.f k b 0 0 0) ((c : Int), (m : Int), e, o) ∧ c < 18446744073709551616 ∧ m ≤ b.length ∧
    (n < c → e = 0 ∧ (lstv b n).2.2 = 5) ∧ (c ≤ n → DInv b n c 0 [] m e) := by
  obtain ⟨v, p2, e2, o2, h1, h2, h3, h4, h5⟩ := var_step hw hl (Nat.zero_le _) 0
  rw [List.drop_zero] at h4 h5
  by_cases he : e2 = 0
  · obtain ⟨r1, r2, r3⟩ := h5 he
    have ht : lstv b n = if (v : Int) > n then ([], 0, 5) else lst b v p2 [] := by unfold lstv; rw [if_pos r3, r1, r2, Nat.zero_add]; rfl
    refine ⟨v, p2, e2, o2, h1, h2, h3, fun c => ⟨he, by rw [ht, if_pos (by omega)]⟩, fun c => ⟨Nat.zero_le _, by simp, h3, .inr ⟨he, rfl, by omega, by rw [ht, if_neg (by omega)]; rfl⟩⟩⟩
  · have hs := h4 he
    have hv : sh b 0 0 = (0, 0, e2) ∨ True := .inr trivial
    have ht : (lstv b n).2.2 = e2 := by unfold lstv; rw [if_neg (by rw [hs]; exact he)]; exact hs
    refine ⟨v, p2, e2, o2, h1, h2, h3, fun c => ?_, fun c => ⟨Nat.zero_le _, by simp, h3, .inl ⟨he, ht.symm⟩⟩⟩
    exfalso
    rcases sh_cases b 0 0 hw (by omega) (by decide) with h | h | ⟨v', m, h, _⟩
    · rw [← List.drop_zero (l := b)] at h
      obtain ⟨k1, q1⟩ := h1
      obtain ⟨k2, q2⟩ := nvar_err (on := 0) hw (show b.length < 4611686018427387904 by omega) (Nat.zero_le _) (.inl rfl) h
      have := (q1 (k1 + k2) (by omega)).symm.trans (q2 (k1 + k2) (by omega))
      injection this with this; injection this with this _; omega
    · rw [← List.drop_zero (l := b)] at h
      obtain ⟨k1, q1⟩ := h1
      obtain ⟨k2, q2⟩ := nvar_err (on := 0) hw (show b.length < 4611686018427387904 by omega) (Nat.zero_le _) (.inr rfl) h
      have := (q1 (k1 + k2) (by omega)).symm.trans (q2 (k1 + k2) (by omega))
      injection this with this; injection this with this _; omega
    · rw [h] at hs; exact he hs.symm
set_option maxHeartbeats 8000000 in
set_option maxRecDepth 100000 in
theorem dcl_any (g : Nat) (b : List Int) (n : Nat) (hw : ∀ x ∈ b, 0 ≤ x ∧ x < 256) (hl : b.length ≤ 1000000) (hn : n ≤ 65536) (w0 w : World) (hI : IsS73 w0 w g b 0 0 0) (hB : Below w0.heap.size w0 w) :
    Calls Tryz.prog 81 #[.pointer (some ⟨g, 0, none⟩), .int .i64 n] w fun e w' => ∃ (v : Value) (L : List Int) (p : Nat) (E o : Int), e = .returned v ∧ Kd.R (Kd.int .i64) 2 w' w.heap.size (fun _ => True) v L ∧ IsS73 w0 w' g b p E o ∧ Below w0.heap.size w0 w' ∧ KeepBut w w' g none ∧ ListedD b n L p E := by
  obtain ⟨c, m, e0, o0, ⟨kv, hkv⟩, hc, hm, hbig, hsmall⟩ := dc_head hw hl n hn
  have HV := Aside0.mk (hkv kv (Nat.le_refl _))
  have HS := Aside0.mk hsmall
  have HG := Aside0.mk hbig
  have I0 := Aside0.mk hI
  have B0 := Aside0.mk hB
  have HL := Aside0.mk hB.size
  have hlt := hI.lt
  have HW := Aside0.mk hw
  have HC := Aside0.mk hc
  have HB2 := Aside0.mk hl
  clear hkv hI hB hbig hsmall hw hc hl
  go_enter Tryz.func81, Tryz.ntmps81
  go_upto_if 19 with (go_at_call 65; (with_reducible refine (num_Reader_Var.calls kv g b 0 0 0 c m e0 o0 w0 _ I0.out B0.out HV.out).mono ?_); rintro e w1 ⟨rfl, hi, hb, hk⟩; have I1 := Aside0.mk hi; have B1 := Aside0.mk hb; have K1 := Aside0.mk hk; clear hi hb hk I0 B0)
  go_cut [] (fun wx => ∃ (p : Nat) (e o : Int), Aside0 (DInv b n c 0 [] p e) ∧ Aside0 (IsS73 w0 wx g b p e o) ∧ Aside0 (Below w0.heap.size w0 wx) ∧ Aside0 (KeepBut w wx g none))
  case first =>
    by_cases hcn : n < c
    · obtain ⟨rfl, hT⟩ := HG.out hcn
      have HT := Aside0.mk hT
      have c1 : decide ((n : Int) < (c : Int)) = true := decide_eq_true (by omega)
      clear hT HG HS HV
      go_wp2_with (go_at_call 39; (with_reducible refine (num_Reader_Fail.calls g b m 0 o0 5 m 5 m w0 _ I1.out B1.out rfl).mono ?_); rintro e_ w2 ⟨rfl, hi, hb, hk⟩; have I2 := Aside0.mk hi; have B2 := Aside0.mk hb; have K2 := Aside0.mk (K1.out.trans hk (.inl rfl)); clear hi hb hk)
      go_meet
      exact ⟨m, 5, m, ⟨⟨Nat.zero_le _, by simp, hm, .inl ⟨by decide, HT.out.symm⟩⟩⟩, I2, B2, K2⟩
    · have c1 : decide ((n : Int) < (c : Int)) = false := decide_eq_false (by omega)
      have H2 := Aside0.mk (HS.out (by omega))
      clear HG HS HV
      go_wp2
      go_meet
      exact ⟨m, e0, o0, H2, I1, B1, K1⟩
  case rest =>
    obtain ⟨p1, e1, o1, H1, I2, B2, K2⟩ := hcut
    clear HG HS HV I1 B1 K1
    go_wp2
    go_loopw [6, 23] (fun v6 v21 wr => ∃ (i : Nat) (out : List Int) (p : Nat) (e o : Int), v21 = .int .u64 i ∧ Aside0 (DInv b n c i out p e) ∧ Aside0 (Kd.R (Kd.int .i64) 2 wr w.heap.size (fun _ => True) v6 out) ∧ Aside0 (IsS73 w0 wr g b p e o) ∧ Aside0 (Below w0.heap.size w0 wr) ∧ Aside0 (KeepBut w wr g none)) (fun _ v21 _ => c - (intOf v21).toNat)
    case atStart => exact ⟨0, [], p1, e1, o1, rfl, H1, ⟨Kd.R_nil _ _ _ _ _⟩, I2, B2, K2⟩
    case round =>
      clear H1 I2 B2 K2
      obtain ⟨i, out, p, e, o, rfl, HI, R3, I3, B3, K3⟩ := hrel
      by_cases hic : i < c
      · have c2 : decide ((i : Int) < (c : Int)) = true := decide_eq_true (by omega)
        have e1 : IntKind.u64.wrap ((i : Int) + 1) = ((i + 1 : Nat) : Int) := by have := HC.out; rw [u64w_id (by omega) (by omega)]; omega
        by_cases he : e = 0
        · subst he
          have hp := HI.out.2.2.1
          have hol := HI.out.2.1
          obtain ⟨Ao, co, rfl⟩ := Kd.R_slice R3.out
          obtain ⟨v, p2, e2, o2, ⟨kw, hkw⟩, hv, hp2, g1, g2⟩ := var_step HW.out HB2.out hp o
          obtain ⟨hio, m1, m2, m3, m4⟩ := HI.out.more hic hp2 g1 g2
          have FV := Aside0.mk (hkw kw (Nat.le_refl _))
          have HV2 := Aside0.mk hv
          have M1 := Aside0.mk m1
          have M2 := Aside0.mk m2
          have M3 := Aside0.mk m3
          have M4 := Aside0.mk m4
          have HIO := Aside0.mk hio
          clear hkw g1 g2 m1 m2 m3 m4 hv HI hio
          by_cases hz : i = 0
          · have c3 : ((i : Int) == 0) = true := by rw [hz]; rfl
            have HZ := Aside0.mk (zag_f v HV2.out)
            have HN : Aside0 (DInv b n c (i + 1) (out ++ [zag v]) p2 e2) := by
              have := HIO.out
              by_cases h0 : e2 = 0
              · subst h0
                exact ⟨M2.out rfl (by omega)⟩
              · exact ⟨M1.out h0 _⟩
            clear M1 M2 M3 M4
            generalize zag v = z at *
            have HI0 := Aside0.mk hz
            clear hz
            go_wp2_with (first
              | (go_at_call 35; (with_reducible refine (num_Reader_Err.calls g b p 0 o 0 o p 0 o w0 _ I3.out B3.out rfl).mono ?_); rintro e_ w4 ⟨rfl, hi, hb, hk⟩; have R4 := Aside0.mk (R_rd I3.out R3.out hk); have I4 := Aside0.mk hi; have B4 := Aside0.mk hb; have K4 := Aside0.mk (K3.out.trans hk (.inl rfl)); clear hi hb hk)
              | (go_at_call 65; (with_reducible refine (num_Reader_Var.calls kw g b p 0 o v p2 e2 o2 w0 _ I4.out B4.out FV.out).mono ?_); rintro e_ w5 ⟨rfl, hi, hb, hk⟩; have R5 := Aside0.mk (R_rd I4.out R4.out hk); have I5 := Aside0.mk hi; have B5 := Aside0.mk hb; have K5 := Aside0.mk (K4.out.trans hk (.inl rfl)); clear hi hb hk)
              | (go_at_call 71; (with_reducible refine (num_Zag.calls v z _ HZ.out).mono ?_); rintro e_ w6 ⟨rfl, hd⟩; have R6 := Aside0.mk (Kd.R_below R5.out hd.below); have I6 := Aside0.mk (I5.out.below hd.below); have B6 := Aside0.mk (below_step B5.out hd.below); have K6 := Aside0.mk (K5.out.trans (KeepBut.of_below hd.below g none) (.inl rfl)); clear hd)
              | ((with_reducible refine gate_builtin (b := .append) (xs := #[.tmp 35, .tmp 39]) rfl ?_); at_builtin; refine Kd.R_append (Kd.int .i64) w.heap.size rfl (.tmp 35) (.tmp 39) 51 2 (.int .i64 0) 8 rfl Tryz.underlying51 info2 rfl (by decide) (by decide) _ out z [.int .i64 z] (fun _ => True) (fun _ => False) rfl rfl rfl (fun _ h => h.elim) (fun _ _ => trivial) R6.out (Below.refl _ _) K6.out.1 (by omega) ?_; intro v9 w9 hR9 hB9 hg9 _))
            (try rw [e1])
            exact ⟨⟨i + 1, out ++ [z], p2, e2, o2, rfl, HN, ⟨hR9⟩, ⟨IsS73.grown I6.out hg9 (IsS73.own_ne I6.out R6.out (by decide))⟩, ⟨below_weaken B6.out HL.out hB9⟩, ⟨K6.out.trans (KeepBut.of_grown hg9 g) (Kd.R_base2 R6.out)⟩⟩, by simp [intOf]; omega⟩
          · have c3 : ((i : Int) == 0) = false := beq_eq_false_iff_ne.2 (by omega)
            have e2x : IntKind.u64.wrap ((i : Int) - 1) = ((i - 1 : Nat) : Int) := by have := HC.out; rw [u64w_id (by omega) (by omega)]; omega
            obtain ⟨la, hla⟩ : ∃ la, rd out ((out.length : Int) - 1) = la := ⟨_, rfl⟩
            rw [hla] at M3 M4
            have HY := Aside0.mk hla
            clear hla M2
            have hi0 : i - 1 < out.length := by (have := HIO.out; omega)
            have hi1 : 0 ≤ (i : Int) - 1 := by omega
            have hi2 : (i : Int) - 1 < (out.length : Int) := by (have := HIO.out; omega)
            go_upto_region 16 with (first
              | (go_at_call 35; (with_reducible refine (num_Reader_Err.calls g b p 0 o 0 o p 0 o w0 _ I3.out B3.out rfl).mono ?_); rintro e_ w4 ⟨rfl, hi, hb, hk⟩; have R4 := Aside0.mk (R_rd I3.out R3.out hk); have I4 := Aside0.mk hi; have B4 := Aside0.mk hb; have K4 := Aside0.mk (K3.out.trans hk (.inl rfl)); clear hi hb hk; obtain ⟨ad, ea, q0⟩ := Kd.at_int (Kd.R_reads' R4.out).2.2 ((out.length : Int) - 1) (by have := HIO.out; omega) (by omega); subst ea; rw [show ((out.length : Int) - 1).toNat = i - 1 from by (have := HIO.out; omega), HY.out] at q0)
              | (go_at_call 65; (with_reducible refine (num_Reader_Var.calls kw g b p 0 o v p2 e2 o2 w0 _ I4.out B4.out FV.out).mono ?_); rintro e_ w5 ⟨rfl, hi, hb, hk⟩; have R5 := Aside0.mk (R_rd I4.out R4.out hk); have I5 := Aside0.mk hi; have B5 := Aside0.mk hb; have K5 := Aside0.mk (K4.out.trans hk (.inl rfl)); clear hi hb hk)
              | (go_at_call 35; (with_reducible refine (num_Reader_Err.calls g b p2 e2 o2 e2 o2 p2 e2 o2 w0 _ I5.out B5.out rfl).mono ?_); rintro e_ w6 ⟨rfl, hi, hb, hk⟩; have R6 := Aside0.mk (R_rd I5.out R5.out hk); have I6 := Aside0.mk hi; have B6 := Aside0.mk hb; have K6 := Aside0.mk (K5.out.trans hk (.inl rfl)); clear hi hb hk))
            obtain ⟨nx, hnx⟩ : ∃ nx, wrap64 (la + wrap64 (IntKind.u64.wrap ((v : Int) + 1))) = nx := ⟨_, rfl⟩
            unfold nxt at M3 M4
            rw [hnx] at M3 M4 ⊢
            clear hnx q0 HY
            have hlz : ¬ out.length = 0 := by omega
            by_cases h2 : e2 = 0
            · have c4 : (e2 == 0) = true := by rw [h2]; rfl
              by_cases hle : nx ≤ la
              · have c5 : decide (nx ≤ la) = true := decide_eq_true hle
                have HN := Aside0.mk (M3.out h2 hlz hle nx)
                subst h2
                clear M1 M3 M4 hlz
                go_wp2_with (first
                  | (go_at_call 39; (with_reducible refine (num_Reader_Fail.calls g b p2 0 o2 4 p2 4 p2 w0 _ I6.out B6.out rfl).mono ?_); rintro e_ w7 ⟨rfl, hi, hb, hk⟩; have R7 := Aside0.mk (R_rd I6.out R6.out hk); have I7 := Aside0.mk hi; have B7 := Aside0.mk hb; have K7 := Aside0.mk (K6.out.trans hk (.inl rfl)); clear hi hb hk)
                  | ((with_reducible refine gate_builtin (b := .append) (xs := #[.tmp 66, .tmp 68]) rfl ?_); at_builtin; refine Kd.R_append (Kd.int .i64) w.heap.size rfl (.tmp 66) (.tmp 68) 51 2 (.int .i64 0) 8 rfl Tryz.underlying51 info2 rfl (by decide) (by decide) _ out nx [.int .i64 nx] (fun _ => True) (fun _ => False) rfl rfl rfl (fun _ h => h.elim) (fun _ _ => trivial) R7.out (Below.refl _ _) K7.out.1 (by omega) ?_; intro v9 w9 hR9 hB9 hg9 _))
                (try rw [e1])
                exact ⟨⟨i + 1, out ++ [nx], p2, 4, p2, rfl, HN, ⟨hR9⟩, ⟨IsS73.grown I7.out hg9 (IsS73.own_ne I7.out R7.out (by decide))⟩, ⟨below_weaken B7.out HL.out hB9⟩, ⟨K7.out.trans (KeepBut.of_grown hg9 g) (Kd.R_base2 R7.out)⟩⟩, by simp [intOf]; omega⟩
              · have c5 : decide (nx ≤ la) = false := decide_eq_false hle
                have HN := Aside0.mk (M4.out h2 hlz (by omega))
                subst h2
                clear M1 M3 M4 hlz
                go_wp2_with ((with_reducible refine gate_builtin (b := .append) (xs := #[.tmp 66, .tmp 68]) rfl ?_); at_builtin; refine Kd.R_append (Kd.int .i64) w.heap.size rfl (.tmp 66) (.tmp 68) 51 2 (.int .i64 0) 8 rfl Tryz.underlying51 info2 rfl (by decide) (by decide) _ out nx [.int .i64 nx] (fun _ => True) (fun _ => False) rfl rfl rfl (fun _ h => h.elim) (fun _ _ => trivial) R6.out (Below.refl _ _) K6.out.1 (by omega) ?_; intro v9 w9 hR9 hB9 hg9 _)
                (try rw [e1])
                exact ⟨⟨i + 1, out ++ [nx], p2, 0, o2, rfl, HN, ⟨hR9⟩, ⟨IsS73.grown I6.out hg9 (IsS73.own_ne I6.out R6.out (by decide))⟩, ⟨below_weaken B6.out HL.out hB9⟩, ⟨K6.out.trans (KeepBut.of_grown hg9 g) (Kd.R_base2 R6.out)⟩⟩, by simp [intOf]; omega⟩
            · have c4 : (e2 == 0) = false := beq_eq_false_iff_ne.2 h2
              have HN := Aside0.mk (M1.out h2 nx)
              clear M1 M3 M4 hlz
              go_wp2_with ((with_reducible refine gate_builtin (b := .append) (xs := #[.tmp 66, .tmp 68]) rfl ?_); at_builtin; refine Kd.R_append (Kd.int .i64) w.heap.size rfl (.tmp 66) (.tmp 68) 51 2 (.int .i64 0) 8 rfl Tryz.underlying51 info2 rfl (by decide) (by decide) _ out nx [.int .i64 nx] (fun _ => True) (fun _ => False) rfl rfl rfl (fun _ h => h.elim) (fun _ _ => trivial) R6.out (Below.refl _ _) K6.out.1 (by omega) ?_; intro v9 w9 hR9 hB9 hg9 _)
              (try rw [e1])
              exact ⟨⟨i + 1, out ++ [nx], p2, e2, o2, rfl, HN, ⟨hR9⟩, ⟨IsS73.grown I6.out hg9 (IsS73.own_ne I6.out R6.out (by decide))⟩, ⟨below_weaken B6.out HL.out hB9⟩, ⟨K6.out.trans (KeepBut.of_grown hg9 g) (Kd.R_base2 R6.out)⟩⟩, by simp [intOf]; omega⟩
        · have c3 : (e != 0) = true := bne_iff_ne.2 he
          have HD := Aside0.mk (HI.out.stop he)
          go_wp2_with (go_at_call 35; (with_reducible refine (num_Reader_Err.calls g b p e o e o p e o w0 _ I3.out B3.out rfl).mono ?_); rintro e_ w4 ⟨rfl, hi, hb, hk⟩; have R4 := Aside0.mk (R_rd I3.out R3.out hk); have I4 := Aside0.mk hi; have B4 := Aside0.mk hb; have K4 := Aside0.mk (K3.out.trans hk (.inl rfl)); clear hi hb hk)
          go_ret
          exact ⟨_, [], p, e, o, rfl, Kd.R_nil _ _ _ _ _, I4.out, B4.out, K4.out, HD.out⟩
      · have c2 : decide ((i : Int) < (c : Int)) = false := decide_eq_false (by omega)
        have hic2 : i = c := by have := HI.out.1; omega
        have HD := Aside0.mk (HI.out.done hic2)
        go_wp2
        go_ret
        exact ⟨_, out, p, e, o, rfl, R3.out, I3.out, B3.out, K3.out, HD.out⟩
end Go.Proofs.YtehbkhddbdgbcaaGreatDoor.Ch
namespace Go.Proofs.YtehbkhddbdgbcaaGreatDoor.Ch
open Go.RowKit Go.Proofs.YtehbkhddbdgbcaaGreatDoorW.PrintWords Go.Proofs.YtehbkhddbdgbcaaGreatDoorW.PrintLast Go.Proofs.YtehbkhddbdgbcaaGreatDoorW.PrintMore Go.Proofs.YtehbkhddbdgbcaaGreatDoor.PChunkBack Go.Proofs.YtehbkhddbdgbcaaGreatDoor.Pure
attribute [local go_sem] max2_int min2_int max_two min_two max_three min_three max_four min_four
set_option linter.unusedVariables false
set_option linter.unusedSimpArgs false
/-- What stands behind the list and the byte of the width. -/
def dcAfter (b : List Int) (n : Int) (L : List Int) (wv : Int) (p : Nat) (e : Int) : Prop :=
  e ≠ 0 ∧ dictv b n = ([], e) ∨ e = 0 ∧ (wv ≠ (wd L.length : Int) → dictv b n = ([], 4)) ∧ (wv = (wd L.length : Int) → dictv b n = if (unpacked (b.drop p) n wv).2 = 0 then Pure.picked L (unpacked (b.drop p) n wv).1 else ([], (unpacked (b.drop p) n wv).2))
theorem dc_fix {b : List Int} (hw : ∀ x ∈ b, 0 ≤ x ∧ x < 256) (hl : b.length ≤ 1000000) {n : Nat} (hn : n ≤ 65536) {L : List Int} {p : Nat} {E o : Int} (h : ListedD b n L p E) :
    ∃ (wv : Int) (p2 : Nat) (e2 o2 : Int), Ev (fun k => num_Reader_Fix.f k b p E o 1) (wv, (p2 : Int), e2, o2) ∧ 0 ≤ wv ∧ wv < 256 ∧ p2 ≤ b.length ∧ dcAfter b n L wv p2 e2 := by
  have hl4 : b.length ≤ 140737488355328 := by omega
  obtain ⟨h1, h2, h3, h4⟩ := h
  have hr : ¬ ((n : Int) < 0 ∨ (n : Int) > 65536) := by omega
  by_cases hE : E = 0
  · obtain ⟨h5, h6⟩ := h2 hE
    rw [hE] at h1 ⊢
    by_cases hp : p < b.length
    · have hb := hw _ (List.getElem_mem hp)
      refine ⟨b[p], p + 1, 0, o, nfix1_ok hw hl4 hp o, hb.1, hb.2, by omega, .inr ⟨rfl, ?_, ?_⟩⟩
      all_goals
        intro hwd
        subst h5; subst h6
        unfold dictv
        rw [if_neg hr, if_pos h1.symm, dif_pos hp]
      · rw [if_neg hwd]
      · rw [if_pos hwd]
    · obtain rfl : p = b.length := by omega
      refine ⟨0, b.length, 2, b.length, nfix1_none (ntake_end hl4 o), by decide, by decide, Nat.le_refl _, .inl ⟨by decide, ?_⟩⟩
      unfold dictv
      rw [if_neg hr, if_pos h1.symm, dif_neg (by rw [← h6]; omega)]
  · refine ⟨0, p, E, o, nfix1_none (ntake_none hl4 h3 hE), by decide, by decide, h3, .inl ⟨hE, ?_⟩⟩
    unfold dictv
    rw [if_neg hr, if_neg (by rw [← h1]; exact hE), ← h1]
theorem dc_pick {L : List Int} {d : List Int} {i : Nat} (hi : i < d.length) (hd : ∀ x ∈ d.take i, x < (L.length : Int)) (h : d[i] < (L.length : Int)) : ∀ x ∈ d.take (i + 1), x < (L.length : Int) := by
  intro x hx
  rw [List.take_succ_eq_append_getElem hi, List.mem_append, List.mem_singleton] at hx
  rcases hx with hx | rfl
  · exact hd x hx
  · exact h
set_option maxHeartbeats 8000000 in
set_option maxRecDepth 100000 in
theorem dcg_any (w : World) (A : Option Addr) (c : Nat) (b : List Int) (n : Int) (hw : ∀ x ∈ b, 0 ≤ x ∧ x < 256) (hl : b.length ≤ 1000000) (hr : Kd.C (Kd.int .u8) w A b.length b) (hc : b.length ≤ c) (hG : HG w) :
    Calls Tryz.prog 50 #[.slice A b.length c, .int .i64 n] w fun e w' => ∃ v, e = .returned (.tuple #[v, .int .i64 (dictv b n).2]) ∧ Kd.R (Kd.int .i64) 2 w' w.heap.size (fun _ => True) v (dictv b n).1 ∧ Below w.heap.size w w' := by
  by_cases h0 : n < 0
  · have e : dictv b n = ([], 1) := by unfold dictv; rw [if_pos (.inl h0)]
    rw [e]
    have c0 : decide (n < 0) = true := decide_eq_true h0
    go_enter Tryz.func50, Tryz.ntmps50
    go_wp2
    go_ret2
    exact ⟨_, rfl, Kd.R_nil _ _ _ _ _, by repeat (first | exact Below.refl _ _ | apply pw_below_drewN | apply below_drew1)⟩
  · by_cases h1 : n > 65536
    · have e : dictv b n = ([], 1) := by unfold dictv; rw [if_pos (.inr h1)]
      rw [e]
      have c0 : decide (n < 0) = false := decide_eq_false h0
      have c1 : decide (65536 < n) = true := decide_eq_true h1
      go_enter Tryz.func50, Tryz.ntmps50
      go_wp2
      go_ret2
      exact ⟨_, rfl, Kd.R_nil _ _ _ _ _, by repeat (first | exact Below.refl _ _ | apply pw_below_drewN | apply below_drew1)⟩
    · obtain ⟨N, rfl⟩ := Int.eq_ofNat_of_zero_le (show 0 ≤ n by omega)
      have hN : N ≤ 65536 := by omega
      have c0 : decide ((N : Int) < 0) = false := decide_eq_false h0
      have c1 : decide (65536 < (N : Int)) = false := decide_eq_false h1
      have f0 : num_NewReader.f b = some (b, 0, 0, 0) := by unfold num_NewReader.f; rw [if_pos (by omega)]
      have hNR := Aside0.mk (num_NewReader.calls A c b _ _ _ _ w w (Below.refl _ _) hr hc hG f0)
      have HW := Aside0.mk hw
      have B0 := Aside0.mk (Below.refl w.heap.size w)
      obtain ⟨rl, re, hT⟩ : ∃ rl re, dictv b N = (rl, re) := ⟨_, _, rfl⟩
      rw [hT]
      have HTT := Aside0.mk hT
      clear h0 h1 f0 hr hw hT
      go_enter Tryz.func50, Tryz.ntmps50
      go_upto_region 6 with (first
        | (go_at_call 18; (with_reducible refine hNR.out.mono ?_); rintro e w1 ⟨g, rfl, hI, hB, _⟩; have I1 := Aside0.mk hI; have B1 := Aside0.mk hB; clear hI hB)
        | (go_at_call 81; (with_reducible refine (dcl_any g b N HW.out hl hN w _ I1.out B1.out).mono ?_); rintro e w2 ⟨v2, L, p, E, o, rfl, hR, hI, hB, hK, hLd⟩; obtain ⟨fx, p2, e2, o2, ⟨kf, hkf⟩, hw0, hw1, hp2, hA2⟩ := dc_fix HW.out hl hN (o := o) hLd; obtain ⟨AL, cL, rfl⟩ := Kd.R_slice hR; have hLn := hLd.2.2.2; have FX := Aside0.mk (hkf kf (Nat.le_refl _)); have A2 := Aside0.mk hA2; have R2 := Aside0.mk (Kd.R_lower hR B1.out.size); have I2 := Aside0.mk hI; have B2 := Aside0.mk hB; clear hR hI hB hK hLd hA2 hkf I1 B1 hNR)
        | (go_at_call 33; (with_reducible refine (num_Reader_Fix.calls kf g b p E o 1 fx p2 e2 o2 w _ I2.out B2.out FX.out).mono ?_); rintro e w3 ⟨rfl, hI, hB, hK⟩; have R3 := Aside0.mk (Kd.R_mono (Kd.R_keep (IsS73.apart I2.out R2.out (by decide)) hK (fun _ h => h.2)) (fun _ h => h.1)); have I3 := Aside0.mk hI; have B3 := Aside0.mk hB; clear hI hB hK R2 I2 B2))
      have hwx : IntKind.i64.wrap fx = fx := by rw [i64_w, w64 (by omega) (by omega)]
      have hwd := Aside0.mk (dict_width_f L.length hLn)
      go_upto_if 35 with (go_at_call 80; (with_reducible refine (dict_width.calls (L.length : Int) (wd L.length : Int) _ hwd.out).mono ?_); rintro e_ w4 ⟨rfl, hb⟩; have R4 := Aside0.mk (Kd.R_below R3.out hb); have I4 := Aside0.mk (I3.out.below hb); have B4 := Aside0.mk (below_step B3.out hb); clear hb R3 I3 B3)
      go_cut [] (fun wx => ∃ (e3 o3 : Int), Aside0 (e3 ≠ 0 ∧ dictv b N = ([], e3) ∨ e3 = 0 ∧ dictv b N = if (unpacked (b.drop p2) N fx).2 = 0 then Pure.picked L (unpacked (b.drop p2) N fx).1 else ([], (unpacked (b.drop p2) N fx).2)) ∧ Aside0 (Kd.R (Kd.int .i64) 2 wx w.heap.size (fun _ => True) (.slice AL L.length cL) L) ∧ Aside0 (IsS73 w wx g b p2 e3 o3) ∧ Aside0 (Below w.heap.size w wx))
      case first =>
        by_cases hx : fx = (wd L.length : Int)
        · have c4 : (fx != (wd L.length : Int)) = false := by rw [hx]; exact bne_self_eq_false _
          have H3 : Aside0 (e2 ≠ 0 ∧ dictv b N = ([], e2) ∨ e2 = 0 ∧ dictv b N = if (unpacked (b.drop p2) N fx).2 = 0 then Pure.picked L (unpacked (b.drop p2) N fx).1 else ([], (unpacked (b.drop p2) N fx).2)) := ⟨A2.out.imp id (fun h => ⟨h.1, h.2.2 hx⟩)⟩
          clear hx A2
          go_wp2
          go_meet
          exact ⟨e2, o2, H3, R4, I4, B4⟩
        · have c4 : (fx != (wd L.length : Int)) = true := bne_iff_ne.2 hx
          obtain ⟨e3, o3, hf, h3⟩ : ∃ e3 o3, num_Reader_Fail.f b p2 e2 o2 4 = some ((p2 : Int), e3, o3) ∧ (e3 ≠ 0 ∧ dictv b N = ([], e3)) := by
            unfold num_Reader_Fail.f num_Reader_Fail.next
            rcases A2.out with ⟨h1, h2⟩ | ⟨h1, h2, _⟩
            · exact ⟨e2, o2, by rw [if_neg (fun h => h1 h.1)], h1, h2⟩
            · exact ⟨4, p2, by rw [if_pos ⟨h1, by decide⟩], by decide, h2 hx⟩
          have HF := Aside0.mk hf
          have H3 := Aside0.mk h3
          clear hx A2 hf h3
          go_wp2_with (go_at_call 39; (with_reducible refine (num_Reader_Fail.calls g b p2 e2 o2 4 p2 e3 o3 w _ I4.out B4.out HF.out).mono ?_); rintro e_ w5 ⟨rfl, hI, hB, hK⟩; have R5 := Aside0.mk (R_rd I4.out R4.out hK); have I5 := Aside0.mk hI; have B5 := Aside0.mk hB; clear hI hB hK)
          go_meet
          exact ⟨e3, o3, ⟨.inl H3.out⟩, R5, I5, B5⟩
      case rest =>
        obtain ⟨e3, o3, H3, R5, I5, B5⟩ := hcut
        clear A2 R4 I4 B4 hwd FX
        rcases H3.out with ⟨h1, h2⟩ | ⟨rfl, h2⟩
        · have h3 := HTT.out.symm.trans h2
          injection h3 with q1 q2
          subst q1
          subst q2
          have c5 : (re != 0) = true := bne_iff_ne.2 h1
          clear H3 h2 HTT
          go_wp2_with (go_at_call 35; (with_reducible refine (num_Reader_Err.calls g b p2 re o3 re o3 p2 re o3 w _ I5.out B5.out rfl).mono ?_); rintro e_ w6 ⟨rfl, hI, hB, hK⟩; have B6 := Aside0.mk hB; clear hI hB hK)
          go_ret2
          exact ⟨_, rfl, Kd.R_nil _ _ _ _ _, B6.out⟩
        · obtain ⟨ku, hku⟩ := unpack_f (b.drop p2) (drop_bytes HW.out p2) N fx
          have hFU := hku ku (Nat.le_refl _)
          have huo := @unpacked_ok (b.drop p2) N fx
          have hT := ntake_all (show b.length ≤ 140737488355328 by omega) hp2 o3
          have hL := nleft (show b.length ≤ 140737488355328 by omega) hp2
          generalize unpacked (b.drop p2) N fx = U at hFU huo h2
          obtain ⟨d, e4⟩ := U
          dsimp only at hFU huo h2
          generalize b.drop p2 = rst at hFU hT
          have FU := Aside0.mk hFU
          have HT := Aside0.mk hT
          have HL := Aside0.mk hL
          have HU := Aside0.mk huo
          have H2 := Aside0.mk (HTT.out.symm.trans h2)
          clear hku hFU hT hL huo H3 h2 HTT
          go_upto_region 12 with (first
            | (go_at_call 35; (with_reducible refine (num_Reader_Err.calls g b p2 0 o3 0 o3 p2 0 o3 w _ I5.out B5.out rfl).mono ?_); rintro e_ w6 ⟨rfl, hI, hB, hK⟩; have R6 := Aside0.mk (R_rd I5.out R5.out hK); have I6 := Aside0.mk hI; have B6 := Aside0.mk hB; clear hI hB hK R5 I5 B5)
            | (go_at_call 23; (with_reducible refine (num_Reader_Left.calls g b p2 0 o3 _ _ _ _ w _ I6.out B6.out rfl).mono ?_); rintro e_ w7 ⟨rfl, hI, hB, hK⟩; have R7 := Aside0.mk (R_rd I6.out R6.out hK); have I7 := Aside0.mk hI; have B7 := Aside0.mk hB; clear hI hB hK R6 I6 B6; rw [HL.out])
            | (go_at_call 22; (with_reducible refine (num_Reader_Take.calls g b p2 0 o3 _ _ _ _ _ w _ I7.out B7.out HT.out).mono ?_); rintro e_ w8 ⟨v8, rfl, hR8, hI, hB, hK⟩; obtain ⟨A8, c8, rfl⟩ := Kd.R_slice hR8; have C8 := Aside0.mk (Kd.R_reads' hR8).2.2; have L8 := Aside0.mk (Kd.R_reads' hR8).2.1; have R8 := Aside0.mk (R_rd I7.out R7.out hK); have B8 := Aside0.mk hB; clear hR8 hI hB hK R7 I7 B7)
            | (go_at_call 40; (with_reducible refine (bits_Unpack.calls ku A8 c8 rst N fx d e4 _ C8.out L8.out FU.out).mono ?_); rintro e_ w9 ⟨v9, rfl, hR9, hb⟩; obtain ⟨A9, c9, rfl⟩ := Kd.R_slice hR9; have D9 := Aside0.mk (Kd.R_lower hR9 B8.out.size); have R9 := Aside0.mk (Kd.R_below R8.out hb); have B9 := Aside0.mk (below_step B8.out hb); clear hR9 hb R8 B8 C8 L8))
          by_cases h4 : e4 = 0
          · subst h4
            have H4 := Aside0.mk (H2.out.trans (if_pos rfl))
            clear H2
            obtain ⟨hdl, hdb, _, _⟩ := HU.out rfl
            have hdn : d.length ≤ 65536 := by omega
            have e0 : usedOf L.length (d.take 0) = List.replicate (L.length : Int).toNat false := by rw [List.take_zero, Int.toNat_natCast]; simp [usedOf, List.map_const']
            have eL : IntKind.u64.wrap (L.length : Int) = (L.length : Int) := u64w_id (by omega) (by omega)
            have HE := Aside0.mk e0
            clear e0
            go_wp2_with ((with_reducible refine gate_dst (N := 61) rfl ?_); refine Kd.R_make Kd.bool w.heap.size 4 rfl (N := 61) rfl 86 _ _ rfl (L.length : Int) rfl rfl Tryz.underlying86 (.bool false) 1 info4 rfl (by decide) (by omega) false (ok := fun _ => True) (okp := fun _ => True) rfl (fun _ hk => hk) trivial (by omega) (Nat.le_trans (Nat.mul_le_mul_right _ (show (L.length : Int).toNat ≤ 281474976710656 by omega)) (by omega)) B9.out B9.out.size ?_; intro v10 w10 hR10 hb hg_ hnew_; rw [← HE.out] at hR10; have U10 := Aside0.mk hR10; have B10 := Aside0.mk hb; have D10 := Aside0.mk (Kd.R_over' (v := .slice none 0 0) D9.out (fun k hk => by cases hk) (e' := 4) (by decide) hg_); have R10 := Aside0.mk (Kd.R_over' (v := .slice none 0 0) R9.out (fun k hk => by cases hk) (e' := 4) (by decide) hg_); clear hR10 hb hg_ hnew_ D9 R9 B9)
            clear HE
            go_loopw [14, 64] (fun v14 v64 wr => ∃ i : Nat, i ≤ d.length ∧ v64 = .int .i64 i ∧ Aside0 (∀ x ∈ d.take i, x < (L.length : Int)) ∧ Aside0 (Kd.R Kd.bool 4 wr w.heap.size (fun _ => True) v10 (usedOf L.length (d.take i))) ∧ Aside0 (Kd.R (Kd.int .i64) 2 wr w.heap.size (fun k => True ∧ some k ≠ v14.ownBlock) (.slice AL L.length cL) L) ∧ Aside0 (Kd.R (Kd.int .i64) 2 wr w.heap.size (fun _ => True) v14 ((d.take i).map (rd L))) ∧ Aside0 (Kd.R (Kd.int .u64) 75 wr w.heap.size (fun _ => True) (.slice A9 d.length c9) d) ∧ Aside0 (Below w.heap.size w wr)) (fun _ v64 _ => d.length - (intOf v64).toNat)
            case atStart => exact ⟨0, Nat.zero_le _, rfl, ⟨fun x hx => by rw [List.take_zero] at hx; cases hx⟩, U10, ⟨Kd.R_mono R10.out (fun k _ => ⟨trivial, by simp [Value.ownBlock]⟩)⟩, ⟨Kd.R_nil _ _ _ _ _⟩, D10, B10⟩
            case round =>
              clear U10 B10 D10 R10
              obtain ⟨i, hi, rfl, HP, UR, LR, OR, DR, BR⟩ := hrel
              by_cases hlt : i < d.length
              · have hmem := List.getElem_mem hlt
                obtain ⟨q, hq⟩ := Int.eq_ofNat_of_zero_le (hdb d[i] hmem).1
                have HQ := Aside0.mk hq
                obtain ⟨ad, ea, q0⟩ := Kd.at_int (Kd.R_reads' DR.out).2.2 (i : Int) (by omega) (by omega)
                subst ea
                rw [Int.toNat_natCast, rd_get hlt, hq] at q0
                have HM := Aside0.mk hmem
                have HDB := Aside0.mk hdb
                clear hq hmem hdb
                by_cases hbig : q < L.length
                · have c7 : decide ((L.length : Int) ≤ (q : Int)) = false := decide_eq_false (by omega)
                  have hul := usedOf_length L.length (d.take i)
                  obtain ⟨go, co, eo, gb, gl, HG⟩ := Kd.R_form UR.out (by omega)
                  rw [hul] at eo
                  subst eo
                  obtain ⟨hx0, hf0⟩ := Kd.R_celln false UR.out (q : Int) (by omega) (by omega)
                  rw [Int.toNat_natCast] at hx0 hf0
                  have HPut := Kd.R_putg UR.out (q : Int) true
                  rw [Int.toNat_natCast] at HPut
                  have HPU := Aside0.mk HPut
                  obtain ⟨y, hy⟩ : ∃ y, rd L (q : Int) = y := ⟨_, rfl⟩
                  have HY := Aside0.mk hy
                  have GB := Aside0.mk gb
                  have HUL := Aside0.mk hul
                  clear HPut hy HG gl gb hul
                  go_wp2_with (first
                    | ((with_reducible refine gate_store (t := 4) (p := 75) rfl ?_); refine store_event (t := 4) (p := 75) (v := ?vo) (w1 := (wr.setCell ⟨go, q, none⟩ (.bool true))) ?hg ?ho ?hn ?hr ?_; (case ho => rfl); (case hg => rfl); (case hn => rfl); (case hr => first | (go_simp; done) | (go_simp; rfl)); intro w11 hw; have hg : wr.grownBy w11 (some go) := (by rw [hw]; exact HPU.out.2); have U11 := Aside0.mk (show Kd.R Kd.bool 4 w11 w.heap.size (fun _ => True) (.slice (some ⟨go, 0, none⟩) L.length co) ((usedOf L.length (d.take i)).set q true) from (by rw [hw]; exact HPU.out.1)); have L11 := Aside0.mk (Kd.R_over' (v := .slice (some ⟨go, 0, none⟩) L.length co) LR.out (Kd.R_typed UR.out) (by decide) hg); have O11 := Aside0.mk (Kd.R_over' (v := .slice (some ⟨go, 0, none⟩) L.length co) OR.out (Kd.R_typed UR.out) (by decide) hg); have D11 := Aside0.mk (Kd.R_over' (v := .slice (some ⟨go, 0, none⟩) L.length co) DR.out (Kd.R_typed UR.out) (by decide) hg); have B11 := Aside0.mk (show Below w.heap.size w w11 from (by rw [hw]; exact below_set BR.out GB.out)); obtain ⟨al, el, l0⟩ := Kd.at_int (Kd.R_reads' L11.out).2.2 (q : Int) (by omega) (by omega); subst el; rw [Int.toNat_natCast, HY.out] at l0; clear hg hw HPU UR LR OR DR BR hx0 hf0 q0)
                    | ((with_reducible refine gate_builtin (b := .append) (xs := #[.tmp 76, .tmp 81]) rfl ?_); at_builtin; refine Kd.R_append (Kd.int .i64) (w0 := w) w.heap.size rfl (.tmp 76) (.tmp 81) 51 2 (.int .i64 0) 8 rfl Tryz.underlying51 info2 rfl (by decide) (by decide) _ ((d.take i).map (rd L)) y [.int .i64 y] (fun _ => True) (fun _ => False) rfl rfl rfl (fun _ h => h.elim) (fun _ _ => trivial) O11.out B11.out B11.out.size (by rw [List.length_map, List.length_take]; omega) ?_; intro v12 w12 hR12 hB12 hg12 hat12))
                  have hm : d.take (i + 1) = d.take i ++ [d[i]] := List.take_succ_eq_append_getElem hlt
                  have hus := usedOf_set L.length (d.take i) q
                  refine ⟨⟨i + 1, by omega, rfl, ⟨dc_pick hlt HP.out (by rw [HQ.out]; omega)⟩, ⟨by rw [hm, HQ.out, ← hus]; exact Kd.R_over' U11.out (Kd.R_typed O11.out) (by decide) hg12⟩, ⟨Kd.R_after (ok := fun _ => True) L11.out hg12 hat12⟩, ⟨by rw [hm, HQ.out, List.map_append, List.map_cons, List.map_nil, HY.out]; exact hR12⟩, ⟨Kd.R_over' D11.out (Kd.R_typed O11.out) (by decide) hg12⟩, ⟨hB12⟩⟩, by simp [intOf]; omega⟩
                · have c7 : decide ((L.length : Int) ≤ (q : Int)) = true := decide_eq_true (by omega)
                  have h5 : Pure.picked L d = ([], 5) := by unfold Pure.picked; rw [if_pos ⟨d[i], HM.out, by rw [HQ.out]; omega⟩]
                  have h6 := H4.out.trans h5
                  injection h6 with q1 q2
                  subst q1
                  subst q2
                  clear h5 H4
                  go_wp2
                  go_ret2
                  exact ⟨_, rfl, Kd.R_nil _ _ _ _ _, BR.out⟩
              · have hie : i = d.length := by omega
                subst hie
                have ht : d.take d.length = d := List.take_length
                rw [ht] at HP UR OR
                have hul := usedOf_length L.length d
                obtain ⟨kc, hkc⟩ := contains_f (usedOf L.length d) (by rw [hul]; omega)
                obtain ⟨A10, c10, rfl⟩ := Kd.R_slice UR.out
                have hC := Kd.R_reads' UR.out
                have HC := Aside0.mk (slices_Contains_bool_bool.calls kc A10 c10 (usedOf L.length d) false _ wr hC.2.2 hC.2.1 (hkc kc (Nat.le_refl _)))
                have hne : ¬ ∃ x ∈ d, x ≥ (L.length : Int) := by rintro ⟨x, hx, h⟩; have := HP.out x hx; omega
                have hp : (rl, re) = if ∀ j, j < L.length → (j : Int) ∈ d then (d.map (rd L), 0) else ([], 4) := by rw [H4.out]; unfold Pure.picked; rw [if_neg hne]
                clear H4 hne hC hkc hul
                by_cases hu : ∀ j, j < L.length → (j : Int) ∈ d
                · have hd : decide (false ∈ usedOf L.length d) = false := decide_eq_false (fun h => (usedOf_false _ _).1 h hu)
                  rw [hd] at HC
                  rw [if_pos hu] at hp
                  injection hp with q1 q2
                  subst q1
                  subst q2
                  clear hu hd
                  go_wp2_with (go_at_call 41; (with_reducible refine HC.out.mono ?_); rintro e_ w11 ⟨rfl, hd⟩; have O11 := Aside0.mk (Kd.R_below OR.out hd.below); have B11 := Aside0.mk (below_step BR.out hd.below); clear hd)
                  go_ret2
                  exact ⟨_, rfl, O11.out, B11.out⟩
                · have hd : decide (false ∈ usedOf L.length d) = true := decide_eq_true ((usedOf_false _ _).2 hu)
                  rw [hd] at HC
                  rw [if_neg hu] at hp
                  injection hp with q1 q2
                  subst q1
                  subst q2
                  clear hu hd
                  go_wp2_with (go_at_call 41; (with_reducible refine HC.out.mono ?_); rintro e_ w11 ⟨rfl, hd⟩; have B11 := Aside0.mk (below_step BR.out hd.below); clear hd)
                  go_ret2
                  exact ⟨_, rfl, Kd.R_nil _ _ _ _ _, B11.out⟩
          · have c6 : (e4 != 0) = true := bne_iff_ne.2 h4
            have h3 := H2.out.trans (if_neg h4)
            injection h3 with q1 q2
            subst q1
            subst q2
            clear h4 H2
            go_wp2
            go_ret2
            exact ⟨_, rfl, Kd.R_nil _ _ _ _ _, B9.out⟩
end Go.Proofs.YtehbkhddbdgbcaaGreatDoor.Ch
