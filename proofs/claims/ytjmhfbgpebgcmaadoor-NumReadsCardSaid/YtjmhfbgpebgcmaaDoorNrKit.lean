/- Words for NumReads: two readers in memory side by side, a row that is written, a row of asks. -/
import Derived.Test.YtjmhfbgpebgcmaaDoorPNumReadsx
import Derived.Test.YtjmhfbgpebgcmaaDoorPureNumReads
namespace Go.Proofs.YtjmhfbgpebgcmaaDoor.Reads
open Go.RowKit Go.Proofs.YtjmhfbgpebgcmaaDoor.PNumReads Go.Proofs.YtjmhfbgpebgcmaaDoor.Pure Go.Proofs.YtjmhfbgpebgcmaaDoorW.PrintWords Go.Proofs.YtjmhfbgpebgcmaaDoorW.PrintLast Go.Proofs.YtjmhfbgpebgcmaaDoorW.PrintMore
attribute [local go_sem] max2_int min2_int max_two min_two max_three min_three max_four min_four
set_option linter.unusedVariables false
set_option linter.unusedSimpArgs false
theorem drawn_below {B : Nat} {w0 w w' : World} (h : Below B w0 w) (hd : Drawn0 w w') : Below B w0 w' := by
  obtain ⟨n, rfl⟩ := hd.out
  exact pw_below_drewN h n
/-- What is made from w0 on, and its error's block: later changes of older blocks leave a Reader alone. -/
theorem S71.old {w0 W W1 : World} {g : Nat} {f0 : List Int} {f1 f2 f3 : Int} (h : IsS71 w0 W g f0 f1 f2 f3) (hk : ∀ k, w0.heap.size ≤ k → W1.heap[k]? = W.heap[k]?) : IsS71 w0 W1 g f0 f1 f2 f3 := by
  obtain ⟨A, c, ev, hb, hg, hr, hf, hG⟩ := h
  refine ⟨A, c, ev, (hk g hg).trans hb, hg, ?_, ?_, hG⟩
  · obtain ⟨inner, ho⟩ := Kd.R_own hr
    exact Kd.R_move hr (fun k e => hk k (own_base ho k e.symm))
  · rcases hf with h | ⟨h0, F, h1, h2, h3⟩
    · exact .inl h
    · exact .inr ⟨h0, F, h1, (hk F h3).trans h2, h3⟩
theorem S71.lower {w0 w1 W : World} {g : Nat} {f0 : List Int} {f1 f2 f3 : Int} (h : IsS71 w0 W g f0 f1 f2 f3) (hl : w1.heap.size ≤ w0.heap.size) (hG : HG w1) : IsS71 w1 W g f0 f1 f2 f3 := by
  obtain ⟨A, c, ev, hb, hg, hr, hf, _⟩ := h
  refine ⟨A, c, ev, hb, by omega, Kd.R_lower hr hl, ?_, hG⟩
  rcases hf with h | ⟨h0, F, h1, h2, h3⟩
  · exact .inl h
  · exact .inr ⟨h0, F, h1, h2, by omega⟩
theorem S47.keep {w0 W W1 : World} {g x : Nat} {f0 : List Int} {f1 f2 f3 : Int} (h : IsS47 w0 W x f0 f1 f2 f3) (hk : KeepBut W W1 g none) (hne : x ≠ g) : IsS47 w0 W1 x f0 f1 f2 f3 := by
  have hlt := h.lt
  obtain ⟨A, c, hb, h1, h2, h3⟩ := h
  exact ⟨A, c, (hk.2 x hlt hne (by simp)).trans hb, h1, h2, h3⟩
theorem S71.keep {w0 W W1 : World} {g x : Nat} {f0 : List Int} {f1 f2 f3 : Int} (h : IsS71 w0 W g f0 f1 f2 f3) (hk : KeepBut W W1 x none) {cs : Array Value} (hx : W.heap[x]? = some (.cells cs 47 (0, 0))) : IsS71 w0 W1 g f0 f1 f2 f3 := by
  refine h.same (fun k cs' t ht hc => hk.2 k (blk_lt hc) ?_ (by simp))
  rintro rfl
  rw [hx] at hc
  injection hc with hc
  injection hc with _ ht2
  rcases ht with ⟨rfl, _⟩ | rfl | rfl <;> cases ht2
theorem S47.block {w0 W : World} {x : Nat} {f0 : List Int} {f1 f2 f3 : Int} (h : IsS47 w0 W x f0 f1 f2 f3) : ∃ cs, W.heap[x]? = some (.cells cs 47 (0, 0)) := by
  obtain ⟨A, c, hb, _⟩ := h
  exact ⟨_, hb⟩
theorem S71.ne {w0 W : World} {g x : Nat} {f0 e0 : List Int} {f1 f2 f3 e1 e2 e3 : Int} (h : IsS71 w0 W g f0 f1 f2 f3) (hx : IsS47 w0 W x e0 e1 e2 e3) : x ≠ g := by
  obtain ⟨cs, hb⟩ := S47.block hx
  exact (h.ne_blk hb (by decide)).symm
/-- Both readers at one state. -/
structure Both (W w : World) (g x : Nat) (b : List Int) (a e on : Int) : Prop where
  s1 : IsS71 W w g b a e on
  s2 : IsS47 W w x b a e on
  bel : Below W.heap.size W w
theorem C_cells8 {W : World} {A : Option Addr} {l : List Int} (h : (Kd.int .u8).C W A l.length l) (hpos : 0 < l.length) : ∃ ad, A = some ad ∧ ∀ j (hj : j < l.length), W.cell? (ad.add j) = some (.int .u8 (l.getD j 0)) := by
  obtain ⟨h1, h2, hc⟩ := h
  obtain ⟨ad, hA, hd⟩ := hc hpos
  refine ⟨ad, hA, fun j hj => ?_⟩
  obtain ⟨c, hl, hR, hu⟩ := hd j l[j] (by simp [hj])
  have e : c = [.int .u8 l[j]] := hR
  subst e
  have := hu 0 _ rfl
  simpa [Kd.int, Kd.scalar, List.getD, hj] using this
/-- A row of bytes, whatever they are. -/
def Row (W : World) (g m : Nat) : Prop := ∃ cur, W.heap[g]? = some (.cells cur 5 (0, 0)) ∧ ∀ j, j < m → ∃ v, 0 ≤ v ∧ v < 256 ∧ cur[j]? = some (.int .u8 v)
theorem Row.cell {W : World} {g m : Nat} (h : Row W g m) {j : Nat} (hj : j < m) : ∃ v, 0 ≤ v ∧ v < 256 ∧ W.cell? ⟨g, j, none⟩ = some (.int .u8 v) ∧ W.frozen? ⟨g, j, none⟩ = false := by
  obtain ⟨cur, hc, hv⟩ := h
  obtain ⟨v, h0, h1, h2⟩ := hv j hj
  exact ⟨v, h0, h1, by rw [blk_cell hc j, h2], blk_frozen hc j⟩
theorem Row.set {W : World} {g m : Nat} (h : Row W g m) (j : Nat) {v : Int} (h0 : 0 ≤ v) (h1 : v < 256) : Row (W.setCell ⟨g, j, none⟩ (.int .u8 v)) g m := by
  obtain ⟨cur, hc, hv⟩ := h
  refine ⟨_, blk_set hc j _, fun i hi => ?_⟩
  by_cases e : j = i
  · subst e
    obtain ⟨u, _, _, h2⟩ := hv j hi
    have hlt : j < cur.size := by
      apply Classical.byContradiction
      intro hn
      rw [Array.getElem?_eq_none (by omega)] at h2
      cases h2
    exact ⟨v, h0, h1, by simp [hlt]⟩
  · obtain ⟨u, h3, h4, h5⟩ := hv i hi
    exact ⟨u, h3, h4, by rw [Array.getElem?_setIfInBounds_ne e, h5]⟩
theorem Row.below {W W' : World} {g m : Nat} (h : Row W g m) (hb : Below W.heap.size W W') : Row W' g m := by
  obtain ⟨cur, hc, hv⟩ := h
  exact ⟨cur, blk_below hc hb, hv⟩
theorem add0 (g j : Nat) : (Addr.add ⟨g, 0, none⟩ j) = ⟨g, j, none⟩ := by by_cases h0 : j = 0 <;> simp [Addr.add, h0]
theorem R_read {W : World} {B : Nat} {ok : Nat → Prop} {v : Value} {l : List Int} (h : (Kd.int .u8).R 5 W B ok v l) : ∃ A c, v = .slice A l.length c ∧ l.length ≤ c ∧ (Kd.int .u8).C W A l.length l := by
  obtain ⟨A, c, rfl⟩ := Kd.R_slice h
  obtain ⟨_, hc, hC⟩ := Kd.R_reads' h
  exact ⟨A, c, rfl, hc, hC⟩
theorem R_open {W : World} {base : Nat} {ok : Nat → Prop} {v : Value} {l : List Int} (h : (Kd.int .u8).R 5 W base ok v l) (hw : ∀ v ∈ l, 0 ≤ v ∧ v < 256) :
    ∃ A c, v = .slice A l.length c ∧ l.length ≤ c ∧ (Kd.int .u8).C W A l.length l ∧ (0 < l.length → ∃ g, A = some ⟨g, 0, none⟩ ∧ base ≤ g ∧ g < W.heap.size ∧ Row W g l.length) := by
  obtain ⟨A, c, rfl, hc, hC⟩ := R_read h
  refine ⟨A, c, rfl, hc, hC, fun hpos => ?_⟩
  obtain ⟨inner, hin⟩ := Kd.R_own h
  obtain ⟨_, h2⟩ := hin
  rcases h2 with ⟨_, h2⟩ | ⟨g, cap, cur, he, hg, hh, hle, _, hsz, _⟩
  · omega
  · injection he with he1 _ he3
    subst he1
    obtain ⟨ad, hA, hcell⟩ := C_cells8 hC hpos
    injection hA with hA
    subst hA
    refine ⟨g, rfl, hg, blk_lt hh, cur, hh, fun j hj => ?_⟩
    have h4 := hcell j hj
    rw [add0, blk_cell hh j] at h4
    exact ⟨_, (hw (l.getD j 0) (by simp [List.getD, hj])).1, (hw (l.getD j 0) (by simp [List.getD, hj])).2, h4⟩
/-- A row of asks. -/
def Asks (W : World) (a : Option Addr) (n : Nat) : Prop := ∀ i, i < n → ∃ ad, a = some ad ∧ ∃ x y, W.cell? (ad.add (i * 2)) = some (.int .i64 x) ∧ W.cell? (ad.add (i * 2 + 1)) = some (.int .i64 y)
theorem blk_of_cell {W : World} {p : Addr} {v : Value} (h : W.cell? p = some v) : p.block < W.heap.size := by
  apply Classical.byContradiction
  intro hn
  have : W.heap[p.block]? = none := by simp; omega
  simp [World.cell?, this] at h
theorem Asks.at {W w : World} {a : Option Addr} {n : Nat} (h : Asks W a n) (hB : Below W.heap.size W w) {i : Nat} (hi : i < n) : ∃ ad, a = some ad ∧ ∃ x y, w.cell? (ad.add (i * 2)) = some (.int .i64 x) ∧ w.cell? (ad.add (i * 2 + 1)) = some (.int .i64 y) := by
  obtain ⟨ad, h1, x, y, h2, h3⟩ := h i hi
  exact ⟨ad, h1, x, y, (hB.cell (p := ad.add (i * 2)) (blk_of_cell h2)).trans h2, (hB.cell (p := ad.add (i * 2 + 1)) (blk_of_cell h3)).trans h3⟩
set_option maxHeartbeats 4000000 in
theorem At_any (w0 w : World) (g : Nat) (b : List Int) (a e on : Int) (hI : IsS71 w0 w g b a e on) : Calls Tryd.prog 20 #[.pointer (some ⟨g, 0, none⟩)] w fun r w' => r = .returned (.int .i64 a) ∧ w = w' := by
  obtain ⟨A, c, ev, hb, hc0, hc1, hc2, hfz, hr, hf⟩ := hI.open
  have e1 : ∀ w, (binOp BinOp.eql 26 (.pointer (some ⟨g, 0, none⟩)) (.pointer none)).run Tryd.prog w = .ok (.bool false) w := fun w => by kernel_rfl
  go_enter Tryd.func20, Tryd.ntmps20
  go_wp2
  go_ret
  exact ⟨rfl, rfl⟩
theorem S47.cells {w0 W : World} {x : Nat} {f0 : List Int} {f1 f2 f3 : Int} (h : IsS47 w0 W x f0 f1 f2 f3) : W.cell? ⟨x, 1, none⟩ = some (.int .i64 f1) ∧ W.cell? ⟨x, 2, none⟩ = some (.int .i64 f2) ∧ W.cell? ⟨x, 3, none⟩ = some (.int .i64 f3) ∧ x < W.heap.size := by
  have hlt := h.lt
  obtain ⟨A, c, hb, _⟩ := h
  exact ⟨(blk_cell hb 1).trans rfl, (blk_cell hb 2).trans rfl, (blk_cell hb 3).trans rfl, hlt⟩
theorem Left_any (w0 w : World) (g : Nat) (b : List Int) (a e on : Int) (hI : IsS71 w0 w g b a e on) : Calls Tryd.prog 21 #[.pointer (some ⟨g, 0, none⟩)] w fun r w' => r = .returned (.int .i64 (wrap64 ((b.length : Int) - a))) ∧ Drawn0 w w' :=
  num_Reader_Left.walk g b a e on w0 w hI
theorem add_field (ad : Addr) (k : Nat) : ad.add (k + 1) = ⟨(ad.add k).block, (ad.add k).off + 1, none⟩ := by
  unfold Addr.add
  by_cases h : k = 0 <;> simp [h, Nat.add_assoc]
/-! What each ask does, to both. -/
section
variable {W w : World} {g x : Nat} {b : List Int} {a e on : Int}
theorem same_true (W : World) (A0 A1 : Option Addr) (c0 c1 : Nat) (l : List Int) (hr0 : (Kd.int .u8).C W A0 l.length l) (hc0 : l.length ≤ c0) (hr1 : (Kd.int .u8).C W A1 l.length l) (hc1 : l.length ≤ c1) (hl : l.length ≤ 65536) :
    Calls Tryd.prog 25 #[.slice A0 l.length c0, .slice A1 l.length c1] W fun e w' => e = .returned (.bool true) ∧ Drawn0 W w' := by
  have hf := same_f l l (by omega) (l.length + 1) (by omega)
  rw [decide_eq_true rfl] at hf
  exact estreatref01_Same.calls (l.length + 1) A0 c0 l A1 c1 l _ W hr0 hc0 hr1 hc1 hf
theorem Both.drawn (h : Both W w g x b a e on) {w' : World} (hd : Drawn0 w w') : Both W w' g x b a e on := by
  obtain ⟨n, rfl⟩ := hd.out
  exact ⟨h.s1.drewN n, h.s2.drewN n, pw_below_drewN h.bel n⟩
/-- The first reader has gone on, the second not yet. -/
structure Half (W w : World) (g x : Nat) (b : List Int) (a e on a' e' on' : Int) : Prop where
  s1 : IsS71 W w g b a' e' on'
  s2 : IsS47 W w x b a e on
  bel : Below W.heap.size W w
theorem Both.half (h : Both W w g x b a e on) {w' : World} {a' e' on' : Int} (h1 : IsS71 W w' g b a' e' on') (h2 : Below W.heap.size W w') (hk : KeepBut w w' g none) : Half W w' g x b a e on a' e' on' :=
  ⟨h1, S47.keep h.s2 hk (S71.ne h.s1 h.s2), h2⟩
theorem Half.both {a' e' on' : Int} (h : Half W w g x b a e on a' e' on') {w' : World} (h1 : IsS47 W w' x b a' e' on') (h2 : Below W.heap.size W w') (hk : KeepBut w w' x none) : Both W w' g x b a' e' on' := by
  obtain ⟨cs, hb⟩ := S47.block h.s2
  exact ⟨S71.keep h.s1 hk hb, h1, h2⟩
theorem Var1 (h : Both W w g x b a e on) (k : Nat) {v a' e' on' : Int} (hf : num_Reader_Var.f k b a e on = some (v, a', e', on')) : Calls Tryd.prog 15 #[.pointer (some ⟨g, 0, none⟩)] w fun r w' => r = .returned (.int .u64 v) ∧ Half W w' g x b a e on a' e' on' :=
  (num_Reader_Var.calls k g b a e on _ _ _ _ W w h.s1 h.bel hf).mono (fun r w' ⟨h0, h1, h2, h3⟩ => ⟨h0, h.half h1 h2 h3⟩)
theorem Var2 {a' e' on' : Int} (h : Half W w g x b a e on a' e' on') (k : Nat) {v : Int} (hf : estreatref01_Reader_Var.f k b a e on = some (v, a', e', on')) : Calls Tryd.prog 28 #[.pointer (some ⟨x, 0, none⟩)] w fun r w' => r = .returned (.int .u64 v) ∧ Both W w' g x b a' e' on' :=
  (estreatref01_Reader_Var.calls k x b a e on _ _ _ _ W w h.s2 h.bel hf).mono (fun r w' ⟨h0, h1, h2, h3⟩ => ⟨h0, h.both h1 h2 h3⟩)
theorem Fix1 (h : Both W w g x b a e on) (k : Nat) (n : Int) {v a' e' on' : Int} (hf : num_Reader_Fix.f k b a e on n = some (v, a', e', on')) : Calls Tryd.prog 18 #[.pointer (some ⟨g, 0, none⟩), .int .i64 n] w fun r w' => r = .returned (.int .u64 v) ∧ Half W w' g x b a e on a' e' on' :=
  (num_Reader_Fix.calls k g b a e on n _ _ _ _ W w h.s1 h.bel hf).mono (fun r w' ⟨h0, h1, h2, h3⟩ => ⟨h0, h.half h1 h2 h3⟩)
theorem Fix2 {a' e' on' : Int} (h : Half W w g x b a e on a' e' on') (k : Nat) (n : Int) {v : Int} (hf : estreatref01_Reader_Fix.f k b a e on n = some (v, a', e', on')) : Calls Tryd.prog 29 #[.pointer (some ⟨x, 0, none⟩), .int .i64 n] w fun r w' => r = .returned (.int .u64 v) ∧ Both W w' g x b a' e' on' :=
  (estreatref01_Reader_Fix.calls k x b a e on n _ _ _ _ W w h.s2 h.bel hf).mono (fun r w' ⟨h0, h1, h2, h3⟩ => ⟨h0, h.both h1 h2 h3⟩)
theorem Take1 (h : Both W w g x b a e on) (n : Int) {l : List Int} {a' e' on' : Int} (hf : num_Reader_Take.f b a e on n = some (l, a', e', on')) : Calls Tryd.prog 14 #[.pointer (some ⟨g, 0, none⟩), .int .i64 n] w fun r w' => ∃ A c, r = .returned (.slice A l.length c) ∧ l.length ≤ c ∧ (Kd.int .u8).R 5 w' w.heap.size (fun _ => True) (.slice A l.length c) l ∧ Half W w' g x b a e on a' e' on' := by
  refine (num_Reader_Take.calls g b a e on n _ _ _ _ W w h.s1 h.bel hf).mono ?_
  rintro r w' ⟨v, rfl, hR, h1, h2, h3⟩
  obtain ⟨A, c, rfl, hc, hC⟩ := R_read hR
  exact ⟨A, c, rfl, hc, hR, h.half h1 h2 h3⟩
theorem Take2 {a' e' on' : Int} (h : Half W w g x b a e on a' e' on') (n : Int) {l : List Int} (hf : estreatref01_Reader_Take.f b a e on n = some (l, a', e', on')) {A0 : Option Addr} {c0 : Nat} {B : Nat} (hR0 : (Kd.int .u8).R 5 w B (fun _ => True) (.slice A0 l.length c0) l) : Calls Tryd.prog 30 #[.pointer (some ⟨x, 0, none⟩), .int .i64 n] w fun r w' => ∃ A c, r = .returned (.slice A l.length c) ∧ l.length ≤ c ∧ (Kd.int .u8).C w' A l.length l ∧ (Kd.int .u8).C w' A0 l.length l ∧ Both W w' g x b a' e' on' := by
  refine (estreatref01_Reader_Take.calls x b a e on n _ _ _ _ W w h.s2 h.bel hf).mono ?_
  rintro r w' ⟨v, rfl, hR, h1, h2, h3⟩
  obtain ⟨A, c, rfl, hc, hC⟩ := R_read hR
  obtain ⟨cs, hb⟩ := S47.block h.s2
  have hR1 := Kd.R_keep (Kd.R_types hR0 hb (by intro q hq; simp [Kd.int, Kd.scalar] at hq; subst hq; decide)) h3 (fun k hk => hk.2)
  exact ⟨A, c, rfl, hc, hC, (Kd.R_reads' hR1).2.2, h.both h1 h2 h3⟩
theorem Blob1 (h : Both W w g x b a e on) (k : Nat) (n : Int) {l : List Int} {a' e' on' : Int} (hf : num_Reader_Blob.f k b a e on n = some (l, a', e', on')) : Calls Tryd.prog 19 #[.pointer (some ⟨g, 0, none⟩), .int .i64 n] w fun r w' => ∃ A c, r = .returned (.slice A l.length c) ∧ l.length ≤ c ∧ (Kd.int .u8).R 5 w' w.heap.size (fun _ => True) (.slice A l.length c) l ∧ Half W w' g x b a e on a' e' on' := by
  refine (num_Reader_Blob.calls k g b a e on n _ _ _ _ W w h.s1 h.bel hf).mono ?_
  rintro r w' ⟨v, rfl, hR, h1, h2, h3⟩
  obtain ⟨A, c, rfl, hc, hC⟩ := R_read hR
  exact ⟨A, c, rfl, hc, hR, h.half h1 h2 h3⟩
theorem Blob2 {a' e' on' : Int} (h : Half W w g x b a e on a' e' on') (k : Nat) (n : Int) {l : List Int} (hf : estreatref01_Reader_Blob.f k b a e on n = some (l, a', e', on')) {A0 : Option Addr} {c0 : Nat} {B : Nat} (hR0 : (Kd.int .u8).R 5 w B (fun _ => True) (.slice A0 l.length c0) l) : Calls Tryd.prog 31 #[.pointer (some ⟨x, 0, none⟩), .int .i64 n] w fun r w' => ∃ A c, r = .returned (.slice A l.length c) ∧ l.length ≤ c ∧ (Kd.int .u8).C w' A l.length l ∧ (Kd.int .u8).C w' A0 l.length l ∧ Both W w' g x b a' e' on' := by
  refine (estreatref01_Reader_Blob.calls k x b a e on n _ _ _ _ W w h.s2 h.bel hf).mono ?_
  rintro r w' ⟨v, rfl, hR, h1, h2, h3⟩
  obtain ⟨A, c, rfl, hc, hC⟩ := R_read hR
  obtain ⟨cs, hb⟩ := S47.block h.s2
  have hR1 := Kd.R_keep (Kd.R_types hR0 hb (by intro q hq; simp [Kd.int, Kd.scalar] at hq; subst hq; decide)) h3 (fun k hk => hk.2)
  exact ⟨A, c, rfl, hc, hC, (Kd.R_reads' hR1).2.2, h.both h1 h2 h3⟩
theorem Fail1 (h : Both W w g x b a e on) (n : Int) {a' e' on' : Int} (hf : num_Reader_Fail.f b a e on n = some (a', e', on')) : Calls Tryd.prog 17 #[.pointer (some ⟨g, 0, none⟩), .int .i64 n] w fun r w' => r = .returned (.tuple #[]) ∧ Half W w' g x b a e on a' e' on' :=
  (num_Reader_Fail.calls g b a e on n _ _ _ W w h.s1 h.bel hf).mono (fun r w' ⟨h0, h1, h2, h3⟩ => ⟨h0, h.half h1 h2 h3⟩)
theorem Fail2 {a' e' on' : Int} (h : Half W w g x b a e on a' e' on') (n : Int) (hf : estreatref01_Reader_Fail.f b a e on n = some (a', e', on')) : Calls Tryd.prog 32 #[.pointer (some ⟨x, 0, none⟩), .int .i64 n] w fun r w' => r = .returned (.tuple #[]) ∧ Both W w' g x b a' e' on' :=
  (estreatref01_Reader_Fail.calls x b a e on n _ _ _ W w h.s2 h.bel hf).mono (fun r w' ⟨h0, h1, h2, h3⟩ => ⟨h0, h.both h1 h2 h3⟩)
theorem Err1 (h : Both W w g x b a e on) : Calls Tryd.prog 16 #[.pointer (some ⟨g, 0, none⟩)] w fun r w' => r = .returned (.tuple #[.int .i64 e, .int .i64 on]) ∧ Both W w' g x b a e on :=
  (num_Reader_Err.calls g b a e on _ _ _ _ _ W w h.s1 h.bel rfl).mono (fun r w' ⟨h0, h1, h2, h3⟩ => ⟨h0, h1, (h.half h1 h2 h3).s2, h2⟩)
theorem End1 (h : Both W w g x b a e on) {y z : Int} (hf : num_Reader_End.f b a e on = some (y, z, a, e, on)) : Calls Tryd.prog 33 #[.pointer (some ⟨g, 0, none⟩)] w fun r w' => r = .returned (.tuple #[.int .i64 y, .int .i64 z]) ∧ Both W w' g x b a e on :=
  (num_Reader_End.calls g b a e on _ _ _ _ _ W w h.s1 h.bel hf).mono (fun r w' ⟨h0, h1, h2, h3⟩ => ⟨h0, h1, (h.half h1 h2 h3).s2, h2⟩)
theorem End2 (h : Both W w g x b a e on) {y z : Int} (hf : estreatref01_Reader_End.f b a e on = some (y, z, a, e, on)) : Calls Tryd.prog 34 #[.pointer (some ⟨x, 0, none⟩)] w fun r w' => r = .returned (.tuple #[.int .i64 y, .int .i64 z]) ∧ Both W w' g x b a e on := by
  have hh : Half W w g x b a e on a e on := ⟨h.s1, h.s2, h.bel⟩
  exact (estreatref01_Reader_End.calls x b a e on _ _ _ _ _ W w h.s2 h.bel hf).mono (fun r w' ⟨h0, h1, h2, h3⟩ => ⟨h0, hh.both h1 h2 h3⟩)
end
end Go.Proofs.YtjmhfbgpebgcmaaDoor.Reads
