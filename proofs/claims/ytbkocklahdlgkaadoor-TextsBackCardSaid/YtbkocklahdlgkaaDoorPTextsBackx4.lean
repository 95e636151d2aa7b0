/- WRITTEN BY A PROGRAM of this session (wip/tool: a turned copy of the printer), out of the translation: Lean functions with the answers of the Go functions, and the proofs that the Go code comes to them. -/
import Derived.Test.YtbkocklahdlgkaaDoorPTextsBackx0
import Derived.Test.YtbkocklahdlgkaaDoorPTextsBackx3
namespace Go.Proofs.YtbkocklahdlgkaaDoor.PTextsBack
open Go.RowKit Go.Proofs.YtbkocklahdlgkaaDoorW.PrintWords Go.Proofs.YtbkocklahdlgkaaDoorW.PrintLast Go.Proofs.YtbkocklahdlgkaaDoorW.PrintMore
attribute [local go_sem] max2_int min2_int max_two min_two max_three min_three max_four min_four   -- for this text's walks alone
set_option linter.unusedVariables false
set_option linter.unusedSimpArgs false

/-! ### num_Reader_Err: function 35 -/
section
open Go.Extern.Stop Go.Stop Go.Extern
/-- errors.As(nil, target). -/
theorem as_nil (t : Value) (w : World) :
    Calls Tryd.prog 73 #[.nilIface, t] w fun e w' => e = .returned (.bool false) ∧ w' = w := by
  go_enter Tryd.func73, Tryd.ntmps73
  go_wp2
  go_ret
  exact ⟨rfl, rfl⟩

/-! ### CLOSED FACTS ON THE MODEL's ENTRIES FOR internal/reflectlite, at this program's types: 25: *p.E · 27: **p.E · 23: error · 45: reflectlite's rtype · 1: how many package-level variables the dump has -/
theorem asf_valueOf27 (t : Addr) (w : World) : (ReflectliteValue.unpack (.iface 133 (.pointer (some t)))).run Tryd.prog w
    = .ok (.agg #[.pointer (some ⟨2, 133, none⟩), .pointer (some ⟨w.heap.size, 0, none⟩), .int .u64 150]) (w.alloc (.cells #[.pointer (some t)] 133)) := by kernel_rfl
theorem asf_type27 (a : Addr) (w : World) : (ReflectliteValue.methodAny (ReflectliteValue.valueError "reflectlite.Value.Type" 0) (fun t _ _ _ => ReflectliteType.toType t) #[.agg #[.pointer (some ⟨2, 133, none⟩), .pointer (some a), .int .u64 150]]).run Tryd.prog w
    = .ok (.iface 193 (.agg #[.pointer (some ⟨2, 133, none⟩)])) w := by kernel_rfl
theorem asf_methodKind (h : Value) (w : World) : (Go.method 354 193 (.agg #[h]) "Kind").run Tryd.prog w = .ok (169, h) w := by kernel_rfl
theorem asf_kind27 (w : World) : ((ReflectliteType.abiMethod fun t => (fun a : Nat => Value.int IntKind.u8 (a : Int)) <$> Rtype.kind t) #[.pointer (some ⟨2, 133, none⟩)]).run Tryd.prog w = .ok (.int .u8 22) w := by kernel_rfl
theorem asf_kind25 (w : World) : ((ReflectliteType.abiMethod fun t => (fun a : Nat => Value.int IntKind.u8 (a : Int)) <$> Rtype.kind t) #[.pointer (some ⟨2, 129, none⟩)]).run Tryd.prog w = .ok (.int .u8 22) w := by kernel_rfl

/-! ### THE ENTRIES THAT READ OR WRITE MEMORY: laws with a premise on the cell (after Derived/Lib/ReflectliteSlice.lean's manner: each unfolding a lemma of its own, by rfl) -/
theorem rlm (z : Sem Value) (f : TypeId → Addr → Nat → Nat → Sem Value) (v : Value) :
    ReflectliteValue.method z f #[v] = (do match ← ReflectliteValue.parts v with | none => z | some (t, a, fl) => f t a fl (fl % 32)) := rfl
theorem asf_parts27 (a : Addr) (w : World) : (ReflectliteValue.parts (.agg #[.pointer (some ⟨2, 133, none⟩), .pointer (some a), .int .u64 150])).run Tryd.prog w = .ok (some (133, a, 150)) w := by kernel_rfl
/-- (Value).IsNil at the Value of a **p.E that is not nil. -/
theorem asf_isNil27 (a p : Addr) (W : World) (ha : W.cell? a = some (.pointer (some p))) :
    (ReflectliteValue.method (ReflectliteValue.valueError "reflectlite.Value.IsNil" 0) ReflectliteValue.isNil #[.agg #[.pointer (some ⟨2, 133, none⟩), .pointer (some a), .int .u64 150]]).run Tryd.prog W = .ok (.bool false) W := by
  rw [rlm]
  simp only [Sem.run_bind, asf_parts27, Result.andThen]
  simp [ReflectliteValue.isNil, loadVar, isAgg, underlying, Tryd.underlying133, ha, Result.andThen]

theorem asf_methodElem (h : Value) (w : World) : (Go.method 354 193 (.agg #[h]) "Elem").run Tryd.prog w = .ok (182, .agg #[h]) w := by kernel_rfl
theorem asf_methodImplements (h : Value) (w : World) : (Go.method 354 193 (.agg #[h]) "Implements").run Tryd.prog w = .ok (183, .agg #[h]) w := by kernel_rfl
theorem asf_methodAssignableTo (h : Value) (w : World) : (Go.method 354 193 (.agg #[h]) "AssignableTo").run Tryd.prog w = .ok (180, .agg #[h]) w := by kernel_rfl
theorem asf_elem27 (w : World) : (ReflectliteType.method ReflectliteType.elem #[.agg #[.pointer (some ⟨2, 133, none⟩)]]).run Tryd.prog w = .ok (.iface 193 (.agg #[.pointer (some ⟨2, 129, none⟩)])) w := by kernel_rfl
theorem asf_implements25 (w : World) : (ReflectliteType.relation "Implements" ReflectliteType.implements_ #[.agg #[.pointer (some ⟨2, 129, none⟩)], .iface 193 (.agg #[.pointer (some ⟨2, 125, none⟩)])]).run Tryd.prog w = .ok (.bool true) w := by kernel_rfl
theorem asf_typeOf25 (v : Value) (w : World) : (ReflectliteType.typeOf #[.iface 129 v]).run Tryd.prog w = .ok (.iface 193 (.agg #[.pointer (some ⟨2, 129, none⟩)])) w := by kernel_rfl
theorem asf_assignable25 (w : World) : (ReflectliteType.relation "AssignableTo" ReflectliteType.assignableTo #[.agg #[.pointer (some ⟨2, 129, none⟩)], .iface 193 (.agg #[.pointer (some ⟨2, 129, none⟩)])]).run Tryd.prog w = .ok (.bool true) w := by kernel_rfl
theorem asf_valueOf25 (e : Addr) (w : World) : (ReflectliteValue.unpack (.iface 129 (.pointer (some e)))).run Tryd.prog w
    = .ok (.agg #[.pointer (some ⟨2, 129, none⟩), .pointer (some ⟨w.heap.size, 0, none⟩), .int .u64 150]) (w.alloc (.cells #[.pointer (some e)] 129)) := by kernel_rfl

theorem asf_elemOf27 (w : World) : (Rtype.elem? 133).run Tryd.prog w = .ok (some 129) w := by kernel_rfl
theorem asf_mk25 (p : Addr) (w : World) : (ReflectliteValue.mk 129 p ReflectliteValue.flagAddr).run Tryd.prog w = .ok (.agg #[.pointer (some ⟨2, 129, none⟩), .pointer (some p), .int .u64 406]) w := by kernel_rfl
/-- (Value).Elem at the Value of a **p.E that is not nil: the Value of the *p.E variable that it points to, addressable. -/
theorem asf_elemV27 (a p : Addr) (W : World) (ha : W.cell? a = some (.pointer (some p))) :
    (ReflectliteValue.method (ReflectliteValue.valueError "reflectlite.Value.Elem" 0) ReflectliteValue.elem #[.agg #[.pointer (some ⟨2, 133, none⟩), .pointer (some a), .int .u64 150]]).run Tryd.prog W
      = .ok (.agg #[.pointer (some ⟨2, 129, none⟩), .pointer (some p), .int .u64 406]) W := by
  rw [rlm]
  simp only [Sem.run_bind, asf_parts27, Result.andThen]
  simp [ReflectliteValue.elem, loadVar, isAgg, underlying, Tryd.underlying133, ha, Result.andThen, asf_elemOf27, asf_mk25]
theorem rls (v x : Value) : ReflectliteValue.set #[v, x] = (do
    let (some (dst, a, fl), some (src, b, _)) := (← ReflectliteValue.parts v, ← ReflectliteValue.parts x)
      | unsupported (.noEntry "extern/(internal/reflectlite.Value).Set.zeroValue")
    if fl / ReflectliteValue.flagAddr % 2 == 0 then unsupported (.noEntry "extern/(internal/reflectlite.Value).Set.unaddressable")
    let val ← loadVar src b
    if ← Rtype.directlyAssignable dst src then storeVar dst a val
    else if ← Rtype.implements dst src then
      if (← Rtype.kind src) == 20 then
        match val with
        | .nilIface => unsupported (.noEntry "extern/reflectlite: a nil value of one interface type handed on as a value of another")
        | _ => storeVar dst a val
      else storeVar dst a (.iface src val)
    else panicString ("reflectlite.Set: value of type " ++ (← Rtype.spelt src) ++ " is not assignable to type " ++ (← Rtype.spelt dst))
    pure (.tuple #[])) := rfl
theorem asf_parts25a (a : Addr) (w : World) : (ReflectliteValue.parts (.agg #[.pointer (some ⟨2, 129, none⟩), .pointer (some a), .int .u64 406])).run Tryd.prog w = .ok (some (129, a, 406)) w := by kernel_rfl
theorem asf_parts25 (a : Addr) (w : World) : (ReflectliteValue.parts (.agg #[.pointer (some ⟨2, 129, none⟩), .pointer (some a), .int .u64 150])).run Tryd.prog w = .ok (some (129, a, 150)) w := by kernel_rfl
theorem asf_direct25 (w : World) : (Rtype.directlyAssignable 129 129).run Tryd.prog w = .ok true w := by kernel_rfl
/-- (Value).Set: the *p.E variable at 'ta' gets what the Value's own variable 'b' holds. -/
theorem asf_set25 (ta b e : Addr) (old : Value) (W : World) (hb : W.cell? b = some (.pointer (some e))) (ht : W.cell? ta = some old) (hf : W.frozen? ta = false) :
    (ReflectliteValue.set #[.agg #[.pointer (some ⟨2, 129, none⟩), .pointer (some ta), .int .u64 406], .agg #[.pointer (some ⟨2, 129, none⟩), .pointer (some b), .int .u64 150]]).run Tryd.prog W
      = .ok (.tuple #[]) (W.setCell ta (.pointer (some e))) := by
  rw [rls]
  simp only [Sem.run_bind, asf_parts25a, asf_parts25, Result.andThen]
  simp [ReflectliteValue.flagAddr, loadVar, isAgg, underlying, Tryd.underlying129, hb, Result.andThen, asf_direct25, storeVar, Value.cells, storeCells, Addr.add]
  rw [run_store Tryd.prog W ta _ _ (by rfl)]
  simp [ht, hf]

set_option maxRecDepth 100000 in
set_option maxHeartbeats 4000000 in
theorem as_hit (e t : Addr) (old : Value) (w : World) (hg : w.cell? ⟨1, 0, none⟩ = some (.iface 193 (.agg #[.pointer (some ⟨2, 125, none⟩)]))) (ht0 : w.cell? t = some old) (hf0 : w.frozen? t = false) :
    Calls Tryd.prog 73 #[.iface 129 (.pointer (some e)), .iface 133 (.pointer (some t))] w fun ev w' => ev = .returned (.bool true) ∧ w' = ((((w.alloc (.cells #[.pointer (some t)] 133)).alloc (.cells #[.pointer (some ⟨2, 133, none⟩), .pointer (some ⟨w.heap.size, 0, none⟩), .int .u64 150] 164)).alloc (.cells #[.pointer (some ⟨2, 133, none⟩), .pointer (some ⟨w.heap.size, 0, none⟩), .int .u64 150] 164)).alloc (.cells #[.pointer (some e)] 129)).setCell t (.pointer (some e)) := by
  have h6 := @run_callFunc_extern Tryd.prog 96 _ (fun args => ReflectliteValue.unpack (args.getD 0 (.tuple #[]))) Tryd.func96 (by kernel_rfl) (by kernel_rfl) (by kernel_rfl) (by kernel_rfl)
  have h7 := @run_callFunc_extern Tryd.prog 97 _ (ReflectliteValue.methodAny (ReflectliteValue.valueError "reflectlite.Value.Type" 0) (fun t _ _ _ => ReflectliteType.toType t)) Tryd.func97 (by kernel_rfl) (by kernel_rfl) (by kernel_rfl) (by kernel_rfl)
  have h8 := @run_callFunc_extern Tryd.prog 98 _ (ReflectliteValue.method (ReflectliteValue.valueError "reflectlite.Value.IsNil" 0) ReflectliteValue.isNil) Tryd.func98 (by kernel_rfl) (by kernel_rfl) (by kernel_rfl) (by kernel_rfl)
  have h27 := @run_callFunc_extern Tryd.prog 169 _ (ReflectliteType.abiMethod fun t => do pure (.int .u8 (← Rtype.kind t))) Tryd.func169 (by kernel_rfl) (by kernel_rfl) (by kernel_rfl) (by kernel_rfl)
  have h37 := @run_callFunc_extern Tryd.prog 182 _ (ReflectliteType.method ReflectliteType.elem) Tryd.func182 (by kernel_rfl) (by kernel_rfl) (by kernel_rfl) (by kernel_rfl)
  have h38 := @run_callFunc_extern Tryd.prog 183 _ (ReflectliteType.relation "Implements" ReflectliteType.implements_) Tryd.func183 (by kernel_rfl) (by kernel_rfl) (by kernel_rfl) (by kernel_rfl)
  have h10 := @run_callFunc_extern Tryd.prog 128 _ ReflectliteType.typeOf Tryd.func128 (by kernel_rfl) (by kernel_rfl) (by kernel_rfl) (by kernel_rfl)
  have h35 := @run_callFunc_extern Tryd.prog 180 _ (ReflectliteType.relation "AssignableTo" ReflectliteType.assignableTo) Tryd.func180 (by kernel_rfl) (by kernel_rfl) (by kernel_rfl) (by kernel_rfl)
  have h11 := @run_callFunc_extern Tryd.prog 129 _ (ReflectliteValue.method (ReflectliteValue.valueError "reflectlite.Value.Elem" 0) ReflectliteValue.elem) Tryd.func129 (by kernel_rfl) (by kernel_rfl) (by kernel_rfl) (by kernel_rfl)
  have h12 := @run_callFunc_extern Tryd.prog 130 _ ReflectliteValue.set Tryd.func130 (by kernel_rfl) (by kernel_rfl) (by kernel_rfl) (by kernel_rfl)
  have tO := asf_typeOf25
  have mA := asf_methodAssignableTo
  have a25 := asf_assignable25
  have v25 := asf_valueOf25
  have f6 := asf_valueOf27
  have f7 := asf_type27
  have mK := asf_methodKind
  have mE := asf_methodElem
  have mI := asf_methodImplements
  have k27 := asf_kind27
  have k25 := asf_kind25
  have e27 := asf_elem27
  have i25 := asf_implements25
  have n8 := asf_isNil27 ⟨w.heap.size, 0, none⟩ t ((w.alloc (.cells #[.pointer (some t)] 133)).alloc (.cells #[.pointer (some ⟨2, 133, none⟩), .pointer (some ⟨w.heap.size, 0, none⟩), .int .u64 150] 164)) (by simp)
  have hlt : 1 < w.heap.size := World.block_lt_of_cell? w _ hg
  have hg2 : ((w.alloc (.cells #[.pointer (some t)] 133)).alloc (.cells #[.pointer (some ⟨2, 133, none⟩), .pointer (some ⟨w.heap.size, 0, none⟩), .int .u64 150] 164)).cell? ⟨1, 0, none⟩ = some (.iface 193 (.agg #[.pointer (some ⟨2, 125, none⟩)])) := by
    rw [World.cell?_alloc_lt _ _ ⟨1, 0, none⟩ (Nat.lt_of_lt_of_le hlt (by simp)), World.cell?_alloc_lt _ _ ⟨1, 0, none⟩ hlt]; exact hg
  have htl : t.block < w.heap.size := by
    rcases Nat.lt_or_ge t.block w.heap.size with h | h
    · exact h
    · simp [World.cell?, Array.getElem?_eq_none h] at ht0
  have el := asf_elemV27 ⟨w.heap.size, 0, none⟩ t (((w.alloc (.cells #[.pointer (some t)] 133)).alloc (.cells #[.pointer (some ⟨2, 133, none⟩), .pointer (some ⟨w.heap.size, 0, none⟩), .int .u64 150] 164)).alloc (.cells #[.pointer (some ⟨2, 133, none⟩), .pointer (some ⟨w.heap.size, 0, none⟩), .int .u64 150] 164)) (by rw [World.cell?_alloc_lt _ _ ⟨w.heap.size, 0, none⟩ (by simp; omega)]; simp)
  have st := asf_set25 t ⟨w.heap.size + 1 + 1 + 1, 0, none⟩ e old ((((w.alloc (.cells #[.pointer (some t)] 133)).alloc (.cells #[.pointer (some ⟨2, 133, none⟩), .pointer (some ⟨w.heap.size, 0, none⟩), .int .u64 150] 164)).alloc (.cells #[.pointer (some ⟨2, 133, none⟩), .pointer (some ⟨w.heap.size, 0, none⟩), .int .u64 150] 164)).alloc (.cells #[.pointer (some e)] 129))
    (by rw [World.cell?_alloc_at _ _ _ _ (by simp)]; rfl)
    (by rw [World.cell?_alloc_lt _ _ t (by simp; omega), World.cell?_alloc_lt _ _ t (by simp; omega), World.cell?_alloc_lt _ _ t (by simp; omega), World.cell?_alloc_lt _ _ t htl]; exact ht0)
    (by rw [World.frozen?_alloc_old _ _ t (by simp; omega), World.frozen?_alloc_old _ _ t (by simp; omega), World.frozen?_alloc_old _ _ t (by simp; omega), World.frozen?_alloc_old _ _ t (Nat.ne_of_lt htl)]; exact hf0)
  go_enter Tryd.func73, Tryd.ntmps73
  go_wp2
  refine wp_loop_rounds 1 ?_
  rw [rounds_succ]
  go_wp2
  go_ret
  exact ⟨rfl, rfl⟩
theorem asf_valueOf77 (t : Addr) (w : World) : (ReflectliteValue.unpack (.iface 134 (.pointer (some t)))).run Tryd.prog w
    = .ok (.agg #[.pointer (some ⟨2, 134, none⟩), .pointer (some ⟨w.heap.size, 0, none⟩), .int .u64 150]) (w.alloc (.cells #[.pointer (some t)] 134)) := by kernel_rfl
theorem asf_type77 (a : Addr) (w : World) : (ReflectliteValue.methodAny (ReflectliteValue.valueError "reflectlite.Value.Type" 0) (fun t _ _ _ => ReflectliteType.toType t) #[.agg #[.pointer (some ⟨2, 134, none⟩), .pointer (some a), .int .u64 150]]).run Tryd.prog w
    = .ok (.iface 193 (.agg #[.pointer (some ⟨2, 134, none⟩)])) w := by kernel_rfl
theorem asf_kind77 (w : World) : ((ReflectliteType.abiMethod fun t => (fun a : Nat => Value.int IntKind.u8 (a : Int)) <$> Rtype.kind t) #[.pointer (some ⟨2, 134, none⟩)]).run Tryd.prog w = .ok (.int .u8 22) w := by kernel_rfl
theorem asf_kind30 (w : World) : ((ReflectliteType.abiMethod fun t => (fun a : Nat => Value.int IntKind.u8 (a : Int)) <$> Rtype.kind t) #[.pointer (some ⟨2, 26, none⟩)]).run Tryd.prog w = .ok (.int .u8 2) w := by kernel_rfl
theorem asf_elem77 (w : World) : (ReflectliteType.method ReflectliteType.elem #[.agg #[.pointer (some ⟨2, 134, none⟩)]]).run Tryd.prog w = .ok (.iface 193 (.agg #[.pointer (some ⟨2, 26, none⟩)])) w := by kernel_rfl
theorem asf_implements30 (w : World) : (ReflectliteType.relation "Implements" ReflectliteType.implements_ #[.agg #[.pointer (some ⟨2, 26, none⟩)], .iface 193 (.agg #[.pointer (some ⟨2, 125, none⟩)])]).run Tryd.prog w = .ok (.bool true) w := by kernel_rfl
theorem asf_typeOf74 (v : Value) (w : World) : (ReflectliteType.typeOf #[.iface 129 v]).run Tryd.prog w = .ok (.iface 193 (.agg #[.pointer (some ⟨2, 129, none⟩)])) w := by kernel_rfl
theorem asf_typeOf30 (v : Value) (w : World) : (ReflectliteType.typeOf #[.iface 26 v]).run Tryd.prog w = .ok (.iface 193 (.agg #[.pointer (some ⟨2, 26, none⟩)])) w := by kernel_rfl
theorem asf_assignable74_30 (w : World) : (ReflectliteType.relation "AssignableTo" ReflectliteType.assignableTo #[.agg #[.pointer (some ⟨2, 129, none⟩)], .iface 193 (.agg #[.pointer (some ⟨2, 26, none⟩)])]).run Tryd.prog w = .ok (.bool false) w := by kernel_rfl
theorem asf_assignable30 (w : World) : (ReflectliteType.relation "AssignableTo" ReflectliteType.assignableTo #[.agg #[.pointer (some ⟨2, 26, none⟩)], .iface 193 (.agg #[.pointer (some ⟨2, 26, none⟩)])]).run Tryd.prog w = .ok (.bool true) w := by kernel_rfl
theorem asf_valueOf30 (c : Int) (w : World) : (ReflectliteValue.unpack (.iface 26 (.int .i64 c))).run Tryd.prog w
    = .ok (.agg #[.pointer (some ⟨2, 26, none⟩), .pointer (some ⟨w.heap.size, 0, none⟩), .int .u64 130]) (w.alloc (.cells #[.int .i64 c] 26)) := by kernel_rfl
theorem asf_elemOf77 (w : World) : (Rtype.elem? 134).run Tryd.prog w = .ok (some 26) w := by kernel_rfl
theorem asf_mk30 (p : Addr) (w : World) : (ReflectliteValue.mk 26 p ReflectliteValue.flagAddr).run Tryd.prog w = .ok (.agg #[.pointer (some ⟨2, 26, none⟩), .pointer (some p), .int .u64 386]) w := by kernel_rfl
theorem asf_direct30 (w : World) : (Rtype.directlyAssignable 26 26).run Tryd.prog w = .ok true w := by kernel_rfl
theorem asf_parts77 (a : Addr) (w : World) : (ReflectliteValue.parts (.agg #[.pointer (some ⟨2, 134, none⟩), .pointer (some a), .int .u64 150])).run Tryd.prog w = .ok (some (134, a, 150)) w := by kernel_rfl
theorem asf_isNil77 (a p : Addr) (W : World) (ha : W.cell? a = some (.pointer (some p))) :
    (ReflectliteValue.method (ReflectliteValue.valueError "reflectlite.Value.IsNil" 0) ReflectliteValue.isNil #[.agg #[.pointer (some ⟨2, 134, none⟩), .pointer (some a), .int .u64 150]]).run Tryd.prog W = .ok (.bool false) W := by
  rw [rlm]
  simp only [Sem.run_bind, asf_parts77, Result.andThen]
  simp [ReflectliteValue.isNil, loadVar, isAgg, underlying, Tryd.underlying134, ha, Result.andThen]
theorem asf_elemV77 (a p : Addr) (W : World) (ha : W.cell? a = some (.pointer (some p))) :
    (ReflectliteValue.method (ReflectliteValue.valueError "reflectlite.Value.Elem" 0) ReflectliteValue.elem #[.agg #[.pointer (some ⟨2, 134, none⟩), .pointer (some a), .int .u64 150]]).run Tryd.prog W
      = .ok (.agg #[.pointer (some ⟨2, 26, none⟩), .pointer (some p), .int .u64 386]) W := by
  rw [rlm]
  simp only [Sem.run_bind, asf_parts77, Result.andThen]
  simp [ReflectliteValue.elem, loadVar, isAgg, underlying, Tryd.underlying134, ha, Result.andThen, asf_elemOf77, asf_mk30]
theorem asf_parts30a (a : Addr) (w : World) : (ReflectliteValue.parts (.agg #[.pointer (some ⟨2, 26, none⟩), .pointer (some a), .int .u64 386])).run Tryd.prog w = .ok (some (26, a, 386)) w := by kernel_rfl
theorem asf_parts30 (a : Addr) (w : World) : (ReflectliteValue.parts (.agg #[.pointer (some ⟨2, 26, none⟩), .pointer (some a), .int .u64 130])).run Tryd.prog w = .ok (some (26, a, 130)) w := by kernel_rfl
theorem asf_set30 (ta b : Addr) (c : Int) (old : Value) (W : World) (hb : W.cell? b = some (.int .i64 c)) (ht : W.cell? ta = some old) (hf : W.frozen? ta = false) :
    (ReflectliteValue.set #[.agg #[.pointer (some ⟨2, 26, none⟩), .pointer (some ta), .int .u64 386], .agg #[.pointer (some ⟨2, 26, none⟩), .pointer (some b), .int .u64 130]]).run Tryd.prog W
      = .ok (.tuple #[]) (W.setCell ta (.int .i64 c)) := by
  rw [rls]
  simp only [Sem.run_bind, asf_parts30a, asf_parts30, Result.andThen]
  simp [ReflectliteValue.flagAddr, loadVar, isAgg, underlying, Tryd.underlying26, hb, Result.andThen, asf_direct30, storeVar, Value.cells, storeCells, Addr.add]
  rw [run_store Tryd.prog W ta _ _ (by rfl)]
  simp [ht, hf]
theorem asf_methodUnwrap (h : Value) (w : World) : (Go.method 354 129 h "Unwrap").run Tryd.prog w = .ok (175, h) w := by kernel_rfl
theorem asf_no114 (v : Value) (w : World) : (Instr.typeAssert (.iface 129 v) 125 198 true).run Tryd.prog w = .ok (.tuple #[.nilIface, .bool false]) w := run_typeAssert_lacksB Tryd.underlying198 (by kernel_rfl) (by kernel_rfl) v 125 w
theorem asf_yes117 (v : Value) (w : World) : (Instr.typeAssert (.iface 129 v) 125 201 true).run Tryd.prog w = .ok (.tuple #[.iface 129 v, .bool true]) w := run_typeAssert_hasB Tryd.underlying201 (by kernel_rfl) v 125 w
set_option maxRecDepth 100000 in
set_option maxHeartbeats 8000000 in
theorem as_errno (F : Nat) (c : Int) (t : Addr) (old : Value) (w : World) (hg : w.cell? ⟨1, 0, none⟩ = some (.iface 193 (.agg #[.pointer (some ⟨2, 125, none⟩)]))) (ht0 : w.cell? t = some old) (hf0 : w.frozen? t = false)
    (hw0 : w.cell? ⟨F, 1, none⟩ = some (.iface 26 (.int .i64 c))) :
    Calls Tryd.prog 73 #[.iface 129 (.pointer (some ⟨F, 0, none⟩)), .iface 134 (.pointer (some t))] w fun ev w' => ev = .returned (.bool true) ∧ w' = ((((w.alloc (.cells #[.pointer (some t)] 134)).alloc (.cells #[.pointer (some ⟨2, 134, none⟩), .pointer (some ⟨w.heap.size, 0, none⟩), .int .u64 150] 164)).alloc (.cells #[.pointer (some ⟨2, 134, none⟩), .pointer (some ⟨w.heap.size, 0, none⟩), .int .u64 150] 164)).alloc (.cells #[.int .i64 c] 26)).setCell t (.int .i64 c) := by
  have h6 := @run_callFunc_extern Tryd.prog 96 _ (fun args => ReflectliteValue.unpack (args.getD 0 (.tuple #[]))) Tryd.func96 (by kernel_rfl) (by kernel_rfl) (by kernel_rfl) (by kernel_rfl)
  have h7 := @run_callFunc_extern Tryd.prog 97 _ (ReflectliteValue.methodAny (ReflectliteValue.valueError "reflectlite.Value.Type" 0) (fun t _ _ _ => ReflectliteType.toType t)) Tryd.func97 (by kernel_rfl) (by kernel_rfl) (by kernel_rfl) (by kernel_rfl)
  have h8 := @run_callFunc_extern Tryd.prog 98 _ (ReflectliteValue.method (ReflectliteValue.valueError "reflectlite.Value.IsNil" 0) ReflectliteValue.isNil) Tryd.func98 (by kernel_rfl) (by kernel_rfl) (by kernel_rfl) (by kernel_rfl)
  have h27 := @run_callFunc_extern Tryd.prog 169 _ (ReflectliteType.abiMethod fun t => do pure (.int .u8 (← Rtype.kind t))) Tryd.func169 (by kernel_rfl) (by kernel_rfl) (by kernel_rfl) (by kernel_rfl)
  have h37 := @run_callFunc_extern Tryd.prog 182 _ (ReflectliteType.method ReflectliteType.elem) Tryd.func182 (by kernel_rfl) (by kernel_rfl) (by kernel_rfl) (by kernel_rfl)
  have h38 := @run_callFunc_extern Tryd.prog 183 _ (ReflectliteType.relation "Implements" ReflectliteType.implements_) Tryd.func183 (by kernel_rfl) (by kernel_rfl) (by kernel_rfl) (by kernel_rfl)
  have h10 := @run_callFunc_extern Tryd.prog 128 _ ReflectliteType.typeOf Tryd.func128 (by kernel_rfl) (by kernel_rfl) (by kernel_rfl) (by kernel_rfl)
  have h35 := @run_callFunc_extern Tryd.prog 180 _ (ReflectliteType.relation "AssignableTo" ReflectliteType.assignableTo) Tryd.func180 (by kernel_rfl) (by kernel_rfl) (by kernel_rfl) (by kernel_rfl)
  have h11 := @run_callFunc_extern Tryd.prog 129 _ (ReflectliteValue.method (ReflectliteValue.valueError "reflectlite.Value.Elem" 0) ReflectliteValue.elem) Tryd.func129 (by kernel_rfl) (by kernel_rfl) (by kernel_rfl) (by kernel_rfl)
  have h12 := @run_callFunc_extern Tryd.prog 130 _ ReflectliteValue.set Tryd.func130 (by kernel_rfl) (by kernel_rfl) (by kernel_rfl) (by kernel_rfl)
  have tO := asf_typeOf74
  have tO2 := asf_typeOf30
  have mA := asf_methodAssignableTo
  have a25 := asf_assignable74_30
  have a30 := asf_assignable30
  have v25 := asf_valueOf30
  have f6 := asf_valueOf77
  have f7 := asf_type77
  have mK := asf_methodKind
  have mE := asf_methodElem
  have mI := asf_methodImplements
  have mU := asf_methodUnwrap
  have n114 := asf_no114
  have y117 := asf_yes117
  have k27 := asf_kind77
  have k25 := asf_kind30
  have e27 := asf_elem77
  have i25 := asf_implements30
  have n8 := asf_isNil77 ⟨w.heap.size, 0, none⟩ t ((w.alloc (.cells #[.pointer (some t)] 134)).alloc (.cells #[.pointer (some ⟨2, 134, none⟩), .pointer (some ⟨w.heap.size, 0, none⟩), .int .u64 150] 164)) (by simp)
  have hlt : 1 < w.heap.size := World.block_lt_of_cell? w _ hg
  have hlF : F < w.heap.size := Go.block_lt_of_cell hw0
  have hg2 : ((w.alloc (.cells #[.pointer (some t)] 134)).alloc (.cells #[.pointer (some ⟨2, 134, none⟩), .pointer (some ⟨w.heap.size, 0, none⟩), .int .u64 150] 164)).cell? ⟨1, 0, none⟩ = some (.iface 193 (.agg #[.pointer (some ⟨2, 125, none⟩)])) := by
    rw [World.cell?_alloc_lt _ _ ⟨1, 0, none⟩ (Nat.lt_of_lt_of_le hlt (by simp)), World.cell?_alloc_lt _ _ ⟨1, 0, none⟩ hlt]; exact hg
  have htl : t.block < w.heap.size := by
    rcases Nat.lt_or_ge t.block w.heap.size with h | h
    · exact h
    · simp [World.cell?, Array.getElem?_eq_none h] at ht0
  generalize hW3 : ((w.alloc (.cells #[.pointer (some t)] 134)).alloc (.cells #[.pointer (some ⟨2, 134, none⟩), .pointer (some ⟨w.heap.size, 0, none⟩), .int .u64 150] 164)).alloc (.cells #[.pointer (some ⟨2, 134, none⟩), .pointer (some ⟨w.heap.size, 0, none⟩), .int .u64 150] 164) = W3
  have hw3 : W3.cell? ⟨F, 1, none⟩ = some (.iface 26 (.int .i64 c)) := by
    rw [← hW3, World.cell?_alloc_lt _ _ ⟨F, 1, none⟩ (by simp; omega), World.cell?_alloc_lt _ _ ⟨F, 1, none⟩ (by simp; omega), World.cell?_alloc_lt _ _ ⟨F, 1, none⟩ hlF]; exact hw0
  have hsz3 : W3.heap.size = w.heap.size + 1 + 1 + 1 := by rw [← hW3]; simp
  have el := asf_elemV77 ⟨w.heap.size, 0, none⟩ t W3 (by rw [← hW3, World.cell?_alloc_lt _ _ ⟨w.heap.size, 0, none⟩ (by simp <;> omega), World.cell?_alloc_lt _ _ ⟨w.heap.size, 0, none⟩ (by simp)]; simp)
  have st := asf_set30 t ⟨w.heap.size + 1 + 1 + 1, 0, none⟩ c old (W3.alloc (.cells #[.int .i64 c] 26))
    (by rw [World.cell?_alloc_at _ _ _ _ (by simp [hsz3])]; rfl)
    (by rw [← hW3, World.cell?_alloc_lt _ _ t (by simp; omega), World.cell?_alloc_lt _ _ t (by simp; omega), World.cell?_alloc_lt _ _ t (by simp; omega), World.cell?_alloc_lt _ _ t htl]; exact ht0)
    (by rw [← hW3, World.frozen?_alloc_old _ _ t (by simp; omega), World.frozen?_alloc_old _ _ t (by simp; omega), World.frozen?_alloc_old _ _ t (by simp; omega), World.frozen?_alloc_old _ _ t (Nat.ne_of_lt htl)]; exact hf0)
  rw [← hW3] at hw3 el st ⊢
  clear hW3 hsz3
  go_enter Tryd.func73, Tryd.ntmps73
  go_wp2
  refine wp_loop_rounds 2 ?_
  rw [rounds_succ]
  go_wp2
  rw [rounds_succ]
  go_wp2
  go_ret
  exact ⟨rfl, rfl⟩
end
theorem as_hit_k (F b : Nat) (old : Value) (w : World) (hG : HG w) (hb : w.heap[b]? = some (.cells #[old] 129 (0, 0))) :
    Calls Tryd.prog 73 #[.iface 129 (.pointer (some ⟨F, 0, none⟩)), .iface 133 (.pointer (some ⟨b, 0, none⟩))] w fun ev w' => ev = .returned (.bool true) ∧ KeepBut w w' b none ∧ (∀ n, n ≤ b → Below n w w') ∧ w'.heap[b]? = some (.cells #[.pointer (some ⟨F, 0, none⟩)] 129 (0, 0)) := by
  refine (as_hit ⟨F, 0, none⟩ ⟨b, 0, none⟩ old w hG ((blk_cell hb 0).trans rfl) (blk_frozen hb 0)).mono ?_
  rintro ev w' ⟨rfl, rfl⟩
  exact ⟨rfl, KeepBut.set_ (keep_alloc (keep_alloc (keep_alloc (keep_alloc (KeepBut.refl _ _ _) _) _) _) _) 0 _, fun n hn => (((((Below.refl n w).alloc (by have := blk_lt hb; omega) _).alloc (by have := blk_lt hb; simp <;> omega) _).alloc (by have := blk_lt hb; simp <;> omega) _).alloc (by have := blk_lt hb; simp <;> omega) _).setCell (p := ⟨b, 0, none⟩) hn _, by have := blk_set (blk_alloc (blk_alloc (blk_alloc (blk_alloc hb (.cells #[.pointer (some ⟨b, 0, none⟩)] 133)) (.cells #[.pointer (some ⟨2, 133, none⟩), .pointer (some ⟨w.heap.size, 0, none⟩), .int .u64 150] 164)) (.cells #[.pointer (some ⟨2, 133, none⟩), .pointer (some ⟨w.heap.size, 0, none⟩), .int .u64 150] 164)) (.cells #[.pointer (some ⟨F, 0, none⟩)] 129)) 0 (.pointer (some ⟨F, 0, none⟩)); simpa using this⟩
theorem as_errno_k (F b : Nat) (c : Int) (old : Value) (w : World) (hG : HG w) (hb : w.heap[b]? = some (.cells #[old] 26 (0, 0))) (hF : w.cell? ⟨F, 1, none⟩ = some (.iface 26 (.int .i64 c))) :
    Calls Tryd.prog 73 #[.iface 129 (.pointer (some ⟨F, 0, none⟩)), .iface 134 (.pointer (some ⟨b, 0, none⟩))] w fun ev w' => ev = .returned (.bool true) ∧ KeepBut w w' b none ∧ (∀ n, n ≤ b → Below n w w') ∧ w'.heap[b]? = some (.cells #[.int .i64 c] 26 (0, 0)) := by
  refine (as_errno F c ⟨b, 0, none⟩ old w hG ((blk_cell hb 0).trans rfl) (blk_frozen hb 0) hF).mono ?_
  rintro ev w' ⟨rfl, rfl⟩
  exact ⟨rfl, KeepBut.set_ (keep_alloc (keep_alloc (keep_alloc (keep_alloc (KeepBut.refl _ _ _) _) _) _) _) 0 _, fun n hn => (((((Below.refl n w).alloc (by have := blk_lt hb; omega) _).alloc (by have := blk_lt hb; simp <;> omega) _).alloc (by have := blk_lt hb; simp <;> omega) _).alloc (by have := blk_lt hb; simp <;> omega) _).setCell (p := ⟨b, 0, none⟩) hn _, by have := blk_set (blk_alloc (blk_alloc (blk_alloc (blk_alloc hb (.cells #[.pointer (some ⟨b, 0, none⟩)] 134)) (.cells #[.pointer (some ⟨2, 134, none⟩), .pointer (some ⟨w.heap.size, 0, none⟩), .int .u64 150] 164)) (.cells #[.pointer (some ⟨2, 134, none⟩), .pointer (some ⟨w.heap.size, 0, none⟩), .int .u64 150] 164)) (.cells #[.int .i64 c] 26)) 0 (.int .i64 c); simpa using this⟩
theorem results_cellint {P : Program} {fn : Func} {p u : Tmp} {ty : TypeId} (h : fn.results = #[.cell p ty, .tmp u]) (tmps : Array Value) (w : World) (g : Nat) (v : Value)
    (hp : tmps.getD p undef = .pointer (some ⟨g, 0, none⟩)) (hc : w.cell? ⟨g, 0, none⟩ = some v) (hu : P.underlying ty = some (.int .i64)) :
    (results fn tmps).run P w = .ok (.tuple #[v, tmps.getD u undef]) w := by
  have hp' : tmps[p]?.getD undef = .pointer (some ⟨g, 0, none⟩) := by simpa using hp
  simp [results, h, hp', asAddr, loadVar, isAgg, underlying, hu, hc, Result.andThen]
def num_Reader_Err.f (s0_0 : List Int) (s0_1 : Int) (s0_2 : Int) (s0_3 : Int) : Option (Int × Int × Int × Int × Int) := some (s0_2, s0_3, s0_1, s0_2, s0_3)
set_option maxRecDepth 100000 in
set_option maxHeartbeats 8000000 in
theorem num_Reader_Err.calls (g : Nat) (s0_0 : List Int) (s0_1 : Int) (s0_2 : Int) (s0_3 : Int) (r1 r2 : Int) (r3 r4 r5 : Int) (w0 w : World) (hI : IsS127 w0 w g s0_0 s0_1 s0_2 s0_3) (hB : Below w0.heap.size w0 w) (h : num_Reader_Err.f s0_0 s0_1 s0_2 s0_3 = some (r1, r2, r3, r4, r5)) :
    Calls Tryd.prog 35 #[.pointer (some ⟨g, 0, none⟩)] w fun e w' => e = .returned (.tuple #[.int .i64 r1, .int .i64 r2]) ∧ IsS127 w0 w' g s0_0 r3 r4 r5 ∧ Below w0.heap.size w0 w' ∧ KeepBut w w' g none := by
  simp only [num_Reader_Err.f, Option.some.injEq, Prod.mk.injEq] at h
  obtain ⟨rfl, rfl, rfl, rfl, rfl⟩ := h
  have hI0 := hI
  have hlt := hI.lt
  obtain ⟨A, c, ev, hb, hc0, hc1, hc2, hfz, hr, hf⟩ := hI.open
  obtain ⟨_, _, _, _, _, _, _, hG0⟩ := id hI
  have hG := hG0.below hB
  have e1 : ∀ w, (binOp BinOp.eql 76 (.pointer (some ⟨g, 0, none⟩)) (.pointer none)).run Tryd.prog w = .ok (.bool false) w := fun w => by kernel_rfl
  have hA1 : Below w.heap.size w ((w.alloc (.cells #[.int .i64 0] 26)).alloc (.cells #[.pointer none] 129)) := below_alloc (below_alloc (Below.refl _ _) _) _
  have hb0 : ((w.alloc (.cells #[.int .i64 0] 26)).alloc (.cells #[.pointer none] 129)).heap[w.heap.size]? = some (.cells #[.int .i64 0] 26 (0, 0)) := blk_alloc (by simpa using heap_alloc_new w (.cells #[.int .i64 0] 26)) _
  have hb1 : ((w.alloc (.cells #[.int .i64 0] 26)).alloc (.cells #[.pointer none] 129)).heap[w.heap.size + 1]? = some (.cells #[.pointer none] 129 (0, 0)) := by simpa using heap_alloc_new (w.alloc (.cells #[.int .i64 0] 26)) (.cells #[.pointer none] 129)
  have hc2A : ((w.alloc (.cells #[.int .i64 0] 26)).alloc (.cells #[.pointer none] 129)).cell? ⟨g, 2, none⟩ = some ev := (blk_cell (blk_below hb hA1) 2).trans rfl
  rcases hf with ⟨rfl, rfl, rfl⟩ | ⟨h0, F, rfl, hF, hFg⟩
  · go_enter Tryd.func35, Tryd.ntmps35
    go_wp2_with (go_at_call 73; refine (as_nil _ _).mono ?_; rintro ev w1 ⟨rfl, rfl⟩)
    refine bodyPost_ret (results_cellint rfl _ _ w.heap.size _ rfl ((blk_cell hb0 0).trans rfl) Tryd.underlying26) rfl ?_
    exact ⟨rfl, hI0.below hA1, below_step hB hA1, KeepBut.of_below hA1 g none⟩
  · have hF0 : w.cell? ⟨F, 1, none⟩ = some (.iface 26 (.int .i64 s0_2)) := (blk_cell hF 1).trans rfl
    have hG1 := hG.below hA1
    go_enter Tryd.func35, Tryd.ntmps35
    go_wp2_with (first
      | (go_at_call 73; with_reducible refine (as_hit_k F (w.heap.size + 1) (.pointer none) _ hG1 hb1).mono ?_; rintro ev w1 ⟨rfl, hK1, hB1n, hb11⟩
         have hb01 := (hK1.2 w.heap.size (blk_lt hb0) (by omega) (by simp)).trans hb0
         have hFF := (hK1.2 F (Nat.lt_of_lt_of_le (blk_lt hF) hA1.size) (by have := blk_lt hF; omega) (by simp)).trans (blk_below hF hA1)
         have hG2 : HG w1 := hG.heap (fun k hk => (hK1.2 k (Nat.lt_of_lt_of_le hk hA1.size) (by omega) (by simp)).trans (hA1.block k hk))
         have hbc11 := (blk_cell hb11 0).trans rfl)
      | (go_at_call 73; with_reducible refine (as_errno_k F w.heap.size s0_2 (.int .i64 0) _ hG2 hb01 ((blk_cell hFF 1).trans rfl)).mono ?_; rintro ev w2 ⟨rfl, hK2, hB2n, hb02⟩
         have hb12 := (hK2.2 (w.heap.size + 1) (blk_lt hb11) (by omega) (by simp)).trans hb11
         have hFF2 := (hK2.2 F (blk_lt hFF) (by have := blk_lt hF; omega) (by simp)).trans hFF
         have hbc02 := (blk_cell hb02 0).trans rfl
         have hbf02 := blk_frozen hb02 0
         have hbc12 := (blk_cell hb12 0).trans rfl
         have hFc := (blk_cell hFF2 0).trans rfl))
    have hBB := (hA1.trans (hB1n w.heap.size (by omega))).trans (hB2n w.heap.size (Nat.le_refl _))
    go_region
    all_goals go_wp2
    all_goals
      have hb03 := blk_set hb02 0 (.int .i64 s0_2)
      have hBC := (hBB.setCell (p := ⟨w.heap.size, 0, none⟩) (Nat.le_refl _) (.int .i64 s0_2)).drew
      refine bodyPost_ret (results_cellint rfl _ _ w.heap.size _ rfl ((blk_cell (blk_drew hb03) 0).trans rfl) Tryd.underlying26) rfl ?_
      exact ⟨rfl, hI0.below hBC, below_step hB hBC, KeepBut.of_below hBC g none⟩

/-! ### num_short: function 95 -/
mutual
def num_short.l0 : Nat → List Int → Int → Int → Int → Option (Int × Int × Int)
  | 0, _, _, _, _ => none
  | k + 1, x0, x2, x3, x5 => if x3 = (x0.length : Int) then (some (0, 0, 2)) else (if 0 ≤ x3 then (if x3 < (x0.length : Int) then (if x5 ≥ 64 then (num_short.j1 k x0 x2 (wrap64 (x3 + 1)) x5 (rd x0 x3) (IntKind.u64.wrap (Go.bits .and .u8 (rd x0 x3) 127)) (decide (x5 ≥ 64))) else (if (wrap64 (x5 + 7)) > 64 then (if 0 ≤ (IntKind.u64.wrap (wrap64 (64 - x5))) then (num_short.j1 k x0 x2 (wrap64 (x3 + 1)) x5 (rd x0 x3) (IntKind.u64.wrap (Go.bits .and .u8 (rd x0 x3) 127)) ((shr .u64 (IntKind.u64.wrap (Go.bits .and .u8 (rd x0 x3) 127)) (IntKind.u64.wrap (wrap64 (64 - x5)))) != 0)) else (none)) else (num_short.j1 k x0 x2 (wrap64 (x3 + 1)) x5 (rd x0 x3) (IntKind.u64.wrap (Go.bits .and .u8 (rd x0 x3) 127)) false))) else (none)) else (none))
def num_short.j1 : Nat → List Int → Int → Int → Int → Int → Int → Bool → Option (Int × Int × Int)
  | 0, _, _, _, _, _, _, _ => none
  | k + 1, x0, x2, x3, x5, x6, x7, x29 => if x29 = true then (some (0, 0, 4)) else (if x6 = 0 then (num_short.j2 k x0 x2 x3 x5 x6 x7 (decide (x3 > 1))) else (num_short.j2 k x0 x2 x3 x5 x6 x7 false))
def num_short.j2 : Nat → List Int → Int → Int → Int → Int → Int → Bool → Option (Int × Int × Int)
  | 0, _, _, _, _, _, _, _ => none
  | k + 1, x0, x2, x3, x5, x6, x7, x43 => if x43 = true then (some (0, 0, 4)) else (if 0 ≤ (IntKind.u64.wrap (x5)) then (if (Go.bits .and .u8 x6 128) = 0 then (some (Go.bits .or .u64 x2 (shl .u64 x7 (IntKind.u64.wrap (x5))), x3, 0)) else (num_short.l0 k x0 (Go.bits .or .u64 x2 (shl .u64 x7 (IntKind.u64.wrap (x5)))) x3 (wrap64 (x5 + 7)))) else (none))
end
def num_short.f (k : Nat) (l0 : List Int) : Option (Int × Int × Int) := num_short.l0 k l0 0 0 0
set_option maxHeartbeats 8000000 in
set_option maxRecDepth 100000 in
theorem num_short.calls (k : Nat) (A0 : Option Addr) (c0 : Nat) (l0 : List Int) (r1 : Int) (r2 : Int) (r3 : Int) (w : World) (hr0 : Kd.C (Kd.int .u8) w A0 l0.length l0) (hc0 : l0.length ≤ c0) (h : num_short.f k l0 = some (r1, r2, r3)) :
    Calls Tryd.prog 95 #[.slice A0 l0.length c0] w fun e w' => e = .returned (.tuple #[.int .u64 r1, .int .i64 r2, .int .i64 r3]) ∧ Drawn0 w w' := by
  have HR0 := Aside0.mk hr0
  have HC0 := Aside0.mk hc0
  clear hr0 hc0
  have H : (num_short.l0 k l0 0 0 0) = some (r1, r2, r3) := h
  clear h
  have H' := Aside0.mk H
  clear H
  go_enter Tryd.func95, Tryd.ntmps95
  go_wp2
  go_loopg [2, 3, 5] k (fun kq v2 v3 v5 w' => ∃ (x2_1 : Int) (x3_1 : Int) (x5_1 : Int), v2 = .int .u64 x2_1 ∧ v3 = .int .i64 x3_1 ∧ v5 = .int .i64 x5_1 ∧ Aside0 (num_short.l0 kq l0 x2_1 x3_1 x5_1 = some (r1, r2, r3)) ∧ Aside0 (kq ≤ k) ∧ Drawn0 w w')
  case atStart => exact ⟨(0), (0), (0), (by first | rfl | (simp; done) | (simp [*]; done)), (by first | rfl | (simp; done) | (simp [*]; done)), (by first | rfl | (simp; done) | (simp [*]; done)), H', ⟨Nat.le_refl _⟩, by repeat (first | exact Drawn0.refl _ | apply Drawn0.step)⟩
  case round =>
    clear H'
    obtain ⟨x2_1, x3_1, x5_1, rfl, rfl, rfl, HA, HK1, ⟨m1, rfl⟩⟩ := hrel
    cases gk with
    | zero => exact absurd HA.out (by simp [num_short.l0])
    | succ k1 =>
      have H := HA.out
      clear HA
      simp only [num_short.l0] at H
      by_cases c2 : x3_1 = (l0.length : Int)
      · rw [if_pos c2] at H
        have c2b0 : (x3_1 == (l0.length : Int)) = true := beq_iff_eq.mpr c2
        have c2b1 : (x3_1 != (l0.length : Int)) = false := bne_eq_false_iff_eq.mpr c2
        clear c2
        simp only [Option.some.injEq, Prod.mk.injEq] at H
        obtain ⟨rfl, rfl, rfl⟩ := H
        go_wp2
        go_ret3
        exact ⟨by first | rfl | (simp; done) | (simp [*]; done), by repeat (first | exact Drawn0.refl _ | apply Drawn0.step)⟩
      · rw [if_neg c2] at H
        have c2b0 : (x3_1 == (l0.length : Int)) = false := beq_eq_false_iff_ne.mpr c2
        have c2b1 : (x3_1 != (l0.length : Int)) = true := bne_iff_ne.mpr c2
        by_cases c3 : 0 ≤ x3_1
        · rw [if_pos c3] at H
          have c3b0 : decide (0 ≤ x3_1) = true := decide_eq_true c3
          clear c3
          by_cases c4 : x3_1 < (l0.length : Int)
          · rw [if_pos c4] at H
            have c4b0 : decide (x3_1 < (l0.length : Int)) = true := decide_eq_true c4
            clear c4
            have HC5 := Aside0.mk H
            clear H
            have p172 : 0 ≤ (x3_1 : Int) := of_decide_eq_true (by first | (with_reducible assumption) | assumption)
            have q172 : x3_1 < (l0.length : Int) := of_decide_eq_true (by first | (with_reducible assumption) | assumption)
            obtain ⟨ad172, e172, hx172_0⟩ := Kd.at_int HR0.out x3_1 p172 q172
            cases e172
            replace p172 := eq_true p172
            replace q172 := eq_true q172
            go_upto_if 29 with (fail)
            go_cut [29] (fun v29 wc => ∃ (kq : Nat) (x29_4 : Bool), v29 = .bool x29_4 ∧ Aside0 (num_short.j1 kq l0 x2_1 (wrap64 (x3_1 + 1)) x5_1 (rd l0 x3_1) (IntKind.u64.wrap (Go.bits .and .u8 (rd l0 x3_1) 127)) x29_4 = some (r1, r2, r3)) ∧ Aside0 (kq ≤ k1) ∧ Drawn0 w wc)
            case first =>
              have H := HC5.out
              clear HC5
              by_cases c6 : x5_1 ≥ 64
              · rw [if_pos c6] at H
                have c6b0 : decide (64 ≤ x5_1) = true := decide_eq_true c6
                clear c6
                (first | rw [c6b0] | (simp only [i64_w, i32_w]; rw [c6b0]) | skip)
                have H' := Aside0.mk H
                clear H
                go_wp2
                go_meet
                case rel => exact ⟨_, (decide (x5_1 ≥ 64)), (by first | rfl | (simp; done) | (simp [*]; done)), H', ⟨by have := HK1.out; first | omega | exact Nat.le_refl _⟩, by repeat (first | exact Drawn0.refl _ | apply Drawn0.step)⟩
              · rw [if_neg c6] at H
                have c6b0 : decide (64 ≤ x5_1) = false := decide_eq_false c6
                clear c6
                (first | rw [c6b0] | (simp only [i64_w, i32_w]; rw [c6b0]) | skip)
                by_cases c7 : (wrap64 (x5_1 + 7)) > 64
                · rw [if_pos c7] at H
                  have c7b0 : decide (64 < (wrap64 (x5_1 + 7))) = true := decide_eq_true c7
                  clear c7
                  obtain ⟨ji8, hji8⟩ : ∃ j_ : Int, (IntKind.u64.wrap (wrap64 (64 - x5_1))) = j_ := ⟨_, rfl⟩
                  replace H : (if 0 ≤ (ji8) then (num_short.j1 k1 l0 x2_1 (wrap64 (x3_1 + 1)) x5_1 (rd l0 x3_1) (IntKind.u64.wrap (Go.bits .and .u8 (rd l0 x3_1) 127)) ((shr .u64 (IntKind.u64.wrap (Go.bits .and .u8 (rd l0 x3_1) 127)) (ji8)) != 0)) else (none)) = some (r1, r2, r3) := by first | (rw [hji8] at H; exact H) | (simp only [hji8] at H ⊢; exact H)
                  by_cases c9 : 0 ≤ (ji8)
                  · rw [if_pos c9] at H
                    have c9b0 := eq_true c9
                    have c9b1 : decide (0 ≤ (ji8)) = true := decide_eq_true c9
                    clear c9
                    obtain ⟨ji10, hji10⟩ : ∃ j_ : Int, (shr .u64 (IntKind.u64.wrap (Go.bits .and .u8 (rd l0 x3_1) 127)) (ji8)) = j_ := ⟨_, rfl⟩
                    replace H : (num_short.j1 k1 l0 x2_1 (wrap64 (x3_1 + 1)) x5_1 (rd l0 x3_1) (IntKind.u64.wrap (Go.bits .and .u8 (rd l0 x3_1) 127)) ((ji10) != 0)) = some (r1, r2, r3) := by first | (rw [hji10] at H; exact H) | (simp only [hji10] at H ⊢; exact H)
                    have hji10_ : ((IntKind.u64.wrap (Go.bits .and .u8 (rd l0 x3_1) 127)) / 2 ^ min (ji8).toNat 64) = ji10 := hji10
                    have hji10z : (ji8) ≤ 64 → ((IntKind.u64.wrap (Go.bits .and .u8 (rd l0 x3_1) 127)) / 2 ^ (ji8).toNat) = ji10 := shr_small hji10
                    have H' := Aside0.mk H
                    clear H
                    go_wp2
                    go_meet
                    case rel => exact ⟨_, (((ji10) != 0)), (by first | rfl | (simp; done) | (simp only [← hji10] <;> (first | rfl | simp)) | (simp [*]; done)), H', ⟨by have := HK1.out; first | omega | exact Nat.le_refl _⟩, by repeat (first | exact Drawn0.refl _ | apply Drawn0.step)⟩
                  · rw [if_neg c9] at H
                    exact absurd H (by simp)
                · rw [if_neg c7] at H
                  have c7b0 : decide (64 < (wrap64 (x5_1 + 7))) = false := decide_eq_false c7
                  clear c7
                  have H' := Aside0.mk H
                  clear H
                  go_wp2
                  go_meet
                  case rel => exact ⟨_, (false), (by first | rfl | (simp; done) | (simp [*]; done)), H', ⟨by have := HK1.out; first | omega | exact Nat.le_refl _⟩, by repeat (first | exact Drawn0.refl _ | apply Drawn0.step)⟩
            case rest =>
              clear HC5
              try clear p1
              try clear q1
              try clear hx1
              try clear c2
              try clear c2b0
              try clear c2b1
              try clear p2
              try clear c3
              try clear c3b0
              try clear c4
              try clear c4b0
              try clear c6
              try clear c6b0
              try clear p6
              try clear c7
              try clear c7b0
              try clear c9
              try clear c9b0
              try clear c9b1
              try clear hx172_0
              try clear p172
              try clear q172
              obtain ⟨kq, x29_4, rfl, HA, HJ4, ⟨mc4, rfl⟩⟩ := hcut
              cases kq with
              | zero => exact absurd HA.out (by simp [num_short.j1])
              | succ kj4 =>
                have H := HA.out
                clear HA
                simp only [num_short.j1] at H
                by_cases c11 : x29_4 = true
                · subst c11
                  have H1 : (some (0, 0, 4)) = some (r1, r2, r3) := by rw [if_pos rfl] at H; exact H
                  clear H
                  have H := H1
                  clear H1
                  simp only [Option.some.injEq, Prod.mk.injEq] at H
                  obtain ⟨rfl, rfl, rfl⟩ := H
                  go_wp2
                  go_ret3
                  exact ⟨by first | rfl | (simp; done) | (simp [*]; done), by repeat (first | exact Drawn0.refl _ | apply Drawn0.step)⟩
                · replace c11 := Bool.eq_false_iff.mpr c11
                  subst c11
                  have H1 : (if (rd l0 x3_1) = 0 then (num_short.j2 kj4 l0 x2_1 (wrap64 (x3_1 + 1)) x5_1 (rd l0 x3_1) (IntKind.u64.wrap (Go.bits .and .u8 (rd l0 x3_1) 127)) (decide ((wrap64 (x3_1 + 1)) > 1))) else (num_short.j2 kj4 l0 x2_1 (wrap64 (x3_1 + 1)) x5_1 (rd l0 x3_1) (IntKind.u64.wrap (Go.bits .and .u8 (rd l0 x3_1) 127)) false)) = some (r1, r2, r3) := by rw [if_neg (show ¬ (false = true) by decide)] at H; exact H
                  clear H
                  have H := H1
                  clear H1
                  have HC12 := Aside0.mk H
                  clear H
                  go_upto_region 12 with (fail)
                  go_cut [43] (fun v43 wc => ∃ (kq : Nat) (x43_11 : Bool), v43 = .bool x43_11 ∧ Aside0 (num_short.j2 kq l0 x2_1 (wrap64 (x3_1 + 1)) x5_1 (rd l0 x3_1) (IntKind.u64.wrap (Go.bits .and .u8 (rd l0 x3_1) 127)) x43_11 = some (r1, r2, r3)) ∧ Aside0 (kq ≤ kj4) ∧ Drawn0 w wc)
                  case first =>
                    have H := HC12.out
                    clear HC12
                    by_cases c13 : (rd l0 x3_1) = 0
                    · rw [if_pos c13] at H
                      have c13b0 : ((rd l0 x3_1) == 0) = true := beq_iff_eq.mpr c13
                      have c13b1 : ((rd l0 x3_1) != 0) = false := bne_eq_false_iff_eq.mpr c13
                      clear c13
                      (first | rw [c13b0] | (simp only [i64_w, i32_w]; rw [c13b0]) | skip)
                      have H' := Aside0.mk H
                      clear H
                      go_wp2
                      go_meet
                      case rel => exact ⟨_, (decide ((wrap64 (x3_1 + 1)) > 1)), (by first | rfl | (simp; done) | (simp [*]; done)), H', ⟨by have := HK1.out; have := HJ4.out; first | omega | exact Nat.le_refl _⟩, by repeat (first | exact Drawn0.refl _ | apply Drawn0.step)⟩
                    · rw [if_neg c13] at H
                      have c13b0 : ((rd l0 x3_1) == 0) = false := beq_eq_false_iff_ne.mpr c13
                      have c13b1 : ((rd l0 x3_1) != 0) = true := bne_iff_ne.mpr c13
                      (first | rw [c13b0] | (simp only [i64_w, i32_w]; rw [c13b0]) | skip)
                      have H' := Aside0.mk H
                      clear H
                      go_wp2
                      go_meet
                      case rel => exact ⟨_, (false), (by first | rfl | (simp; done) | (simp [*]; done)), H', ⟨by have := HK1.out; have := HJ4.out; first | omega | exact Nat.le_refl _⟩, by repeat (first | exact Drawn0.refl _ | apply Drawn0.step)⟩
                  case rest =>
                    clear HC12
                    try clear c1
                    try clear p1
                    try clear q1
                    try clear hx1
                    try clear c2
                    try clear c2b0
                    try clear c2b1
                    try clear p2
                    try clear c3
                    try clear c3b0
                    try clear c4
                    try clear c4b0
                    try clear c6
                    try clear c6b0
                    try clear p6
                    try clear c7
                    try clear c7b0
                    try clear c9
                    try clear c9b0
                    try clear c9b1
                    try clear c11
                    try clear c13
                    try clear c13b0
                    try clear c13b1
                    try clear hx172_0
                    try clear p1
                    try clear p172
                    try clear p2
                    try clear p6
                    try clear q1
                    try clear q172
                    obtain ⟨kq, x43_11, rfl, HA, HJ11, ⟨mc11, rfl⟩⟩ := hcut
                    cases kq with
                    | zero => exact absurd HA.out (by simp [num_short.j2])
                    | succ kj11 =>
                      have H := HA.out
                      clear HA
                      simp only [num_short.j2] at H
                      by_cases c14 : x43_11 = true
                      · subst c14
                        have H1 : (some (0, 0, 4)) = some (r1, r2, r3) := by rw [if_pos rfl] at H; exact H
                        clear H
                        have H := H1
                        clear H1
                        simp only [Option.some.injEq, Prod.mk.injEq] at H
                        obtain ⟨rfl, rfl, rfl⟩ := H
                        go_wp2
                        go_ret3
                        exact ⟨by first | rfl | (simp; done) | (simp [*]; done), by repeat (first | exact Drawn0.refl _ | apply Drawn0.step)⟩
                      · replace c14 := Bool.eq_false_iff.mpr c14
                        subst c14
                        have H1 : (if 0 ≤ (IntKind.u64.wrap (x5_1)) then (if (Go.bits .and .u8 (rd l0 x3_1) 128) = 0 then (some (Go.bits .or .u64 x2_1 (shl .u64 (IntKind.u64.wrap (Go.bits .and .u8 (rd l0 x3_1) 127)) (IntKind.u64.wrap (x5_1))), (wrap64 (x3_1 + 1)), 0)) else (num_short.l0 kj11 l0 (Go.bits .or .u64 x2_1 (shl .u64 (IntKind.u64.wrap (Go.bits .and .u8 (rd l0 x3_1) 127)) (IntKind.u64.wrap (x5_1)))) (wrap64 (x3_1 + 1)) (wrap64 (x5_1 + 7)))) else (none)) = some (r1, r2, r3) := by rw [if_neg (show ¬ (false = true) by decide)] at H; exact H
                        clear H
                        have H := H1
                        clear H1
                        obtain ⟨ji15, hji15⟩ : ∃ j_ : Int, (IntKind.u64.wrap (x5_1)) = j_ := ⟨_, rfl⟩
                        replace H : (if 0 ≤ (ji15) then (if (Go.bits .and .u8 (rd l0 x3_1) 128) = 0 then (some (Go.bits .or .u64 x2_1 (shl .u64 (IntKind.u64.wrap (Go.bits .and .u8 (rd l0 x3_1) 127)) (ji15)), (wrap64 (x3_1 + 1)), 0)) else (num_short.l0 kj11 l0 (Go.bits .or .u64 x2_1 (shl .u64 (IntKind.u64.wrap (Go.bits .and .u8 (rd l0 x3_1) 127)) (ji15))) (wrap64 (x3_1 + 1)) (wrap64 (x5_1 + 7)))) else (none)) = some (r1, r2, r3) := by first | (rw [hji15] at H; exact H) | (simp only [hji15] at H ⊢; exact H)
                        by_cases c16 : 0 ≤ (ji15)
                        · rw [if_pos c16] at H
                          have c16b0 := eq_true c16
                          have c16b1 : decide (0 ≤ (ji15)) = true := decide_eq_true c16
                          clear c16
                          obtain ⟨ji17, hji17⟩ : ∃ j_ : Int, (shl .u64 (IntKind.u64.wrap (Go.bits .and .u8 (rd l0 x3_1) 127)) (ji15)) = j_ := ⟨_, rfl⟩
                          replace H : (if (Go.bits .and .u8 (rd l0 x3_1) 128) = 0 then (some (Go.bits .or .u64 x2_1 (ji17), (wrap64 (x3_1 + 1)), 0)) else (num_short.l0 kj11 l0 (Go.bits .or .u64 x2_1 (ji17)) (wrap64 (x3_1 + 1)) (wrap64 (x5_1 + 7)))) = some (r1, r2, r3) := by first | (rw [hji17] at H; exact H) | (simp only [hji17] at H ⊢; exact H)
                          have hji17_ : (IntKind.u64.wrap ((IntKind.u64.wrap (Go.bits .and .u8 (rd l0 x3_1) 127)) * 2 ^ min (ji15).toNat 64)) = ji17 := hji17
                          have hji17z : (ji15) ≤ 64 → (IntKind.u64.wrap ((IntKind.u64.wrap (Go.bits .and .u8 (rd l0 x3_1) 127)) * 2 ^ (ji15).toNat)) = ji17 := shl_small hji17
                          by_cases c18 : (Go.bits .and .u8 (rd l0 x3_1) 128) = 0
                          · rw [if_pos c18] at H
                            have c18b0 : ((Go.bits .and .u8 (rd l0 x3_1) 128) == 0) = true := beq_iff_eq.mpr c18
                            have c18b1 : ((Go.bits .and .u8 (rd l0 x3_1) 128) != 0) = false := bne_eq_false_iff_eq.mpr c18
                            clear c18
                            simp only [Option.some.injEq, Prod.mk.injEq] at H
                            obtain ⟨rfl, rfl, rfl⟩ := H
                            go_wp2
                            go_ret3
                            exact ⟨by first | rfl | (simp; done) | (simp only [← hji15, ← hji17] <;> (first | rfl | simp)) | (simp [*]; done), by repeat (first | exact Drawn0.refl _ | apply Drawn0.step)⟩
                          · rw [if_neg c18] at H
                            have c18b0 : ((Go.bits .and .u8 (rd l0 x3_1) 128) == 0) = false := beq_eq_false_iff_ne.mpr c18
                            have c18b1 : ((Go.bits .and .u8 (rd l0 x3_1) 128) != 0) = true := bne_iff_ne.mpr c18
                            have H' := Aside0.mk H
                            clear H
                            go_wp2
                            go_roundg kj11
                            case measure => have := HK1.out; have := HJ4.out; have := HJ11.out; omega
                            case rel => exact ⟨(Go.bits .or .u64 x2_1 (ji17)), ((wrap64 (x3_1 + 1))), (wrap64 (x5_1 + 7)), (by first | rfl | (simp; done) | (simp only [← hji17] <;> (first | rfl | simp)) | (simp [*]; done)), (by first | rfl | (simp; done) | (simp [*]; done)), (by first | rfl | (simp; done) | (simp [*]; done)), H', ⟨by have := HK1.out; have := HJ4.out; have := HJ11.out; omega⟩, by repeat (first | exact Drawn0.refl _ | apply Drawn0.step)⟩
                        · rw [if_neg c16] at H
                          exact absurd H (by simp)
          · rw [if_neg c4] at H
            exact absurd H (by simp)
        · rw [if_neg c3] at H
          exact absurd H (by simp)

/-! ### num_Reader_Var: function 70 -/
def num_Reader_Var.f (k : Nat) (s0_0 : List Int) (s0_1 : Int) (s0_2 : Int) (s0_3 : Int) : Option (Int × Int × Int × Int) :=
  if s0_2 ≠ 0 then some (0, s0_1, s0_2, s0_3)
  else if 0 ≤ s0_1 ∧ s0_1 ≤ (s0_0.length : Int) then
    (num_short.f k (s0_0.drop s0_1.toNat)).bind fun t => (num_Reader_Fail.f s0_0 s0_1 s0_2 s0_3 t.2.2).bind fun u => some (t.1, wrap64 (u.1 + t.2.1), u.2.1, u.2.2)
  else none
set_option maxRecDepth 100000 in
set_option maxHeartbeats 8000000 in
theorem num_Reader_Var.calls (k : Nat) (g : Nat) (s0_0 : List Int) (s0_1 : Int) (s0_2 : Int) (s0_3 : Int) (r1 : Int) (r2 : Int) (r3 : Int) (r4 : Int) (w0 w : World) (hI : IsS127 w0 w g s0_0 s0_1 s0_2 s0_3) (hB : Below w0.heap.size w0 w) (h : num_Reader_Var.f k s0_0 s0_1 s0_2 s0_3 = some (r1, r2, r3, r4)) :
    Calls Tryd.prog 70 #[.pointer (some ⟨g, 0, none⟩)] w fun e w' => e = .returned (.int .u64 r1) ∧ IsS127 w0 w' g s0_0 r2 r3 r4 ∧ Below w0.heap.size w0 w' ∧ KeepBut w w' g none := by
  unfold num_Reader_Var.f at h
  have hI0 := hI
  obtain ⟨A1, c1, ev, hb, hc0, hc1, hc2, hfz, hr, hf⟩ := hI.open
  have hg := hI.ge
  by_cases h0 : s0_2 ≠ 0
  · rw [if_pos h0] at h
    simp only [Option.some.injEq, Prod.mk.injEq] at h
    obtain ⟨rfl, rfl, rfl, rfl⟩ := h
    have d0 : decide (s0_2 = 0) = false := decide_eq_false h0
    go_enter Tryd.func70, Tryd.ntmps70
    go_wp2_with (go_at_call 72; refine (num_Reader_ok.walk g _ _ _ _ w0 _ hI0).mono ?_; rintro e w' ⟨he, rfl⟩; rw [d0] at he; subst he)
    go_ret
    exact ⟨rfl, hI0, hB, KeepBut.refl _ _ _⟩
  rw [if_neg h0] at h
  by_cases hb0 : 0 ≤ s0_1 ∧ s0_1 ≤ (s0_0.length : Int)
  case neg => rw [if_neg hb0] at h; cases h
  rw [if_pos hb0] at h
  obtain ⟨⟨t1, t2, t3⟩, ht, h⟩ := Option.bind_eq_some_iff.mp h
  obtain ⟨⟨u1, u2, u3⟩, hu, h⟩ := Option.bind_eq_some_iff.mp h
  simp only [Option.some.injEq, Prod.mk.injEq] at h
  obtain ⟨rfl, rfl, rfl, rfl⟩ := h
  obtain ⟨hb1, hb2⟩ := hb0
  have h0 : s0_2 = 0 := by simpa using h0
  have d0 : decide (s0_2 = 0) = true := decide_eq_true h0
  obtain ⟨_, hcc, hC⟩ := Kd.R_reads' hr
  have hmid := Kd.C_drop (m := s0_1.toNat) hC (by omega) hcc
  have hmid : (Kd.int .u8).C w (if c1 = s0_1.toNat then A1 else A1.map (fun x => x.add s0_1.toNat)) (s0_0.drop s0_1.toNat).length (s0_0.drop s0_1.toNat) := by simpa [Kd.int, Kd.scalar] using hmid
  have hst : s0_0.length - s0_1.toNat = (s0_0.drop s0_1.toNat).length := by rw [List.length_drop]
  have hle : (s0_0.drop s0_1.toNat).length ≤ c1 - s0_1.toNat := by omega
  have hl5 : s0_1 ≤ (c1 : Int) := by omega
  have hKC : (Kd.int .u8).C w.drew (if c1 = s0_1.toNat then A1 else A1.map (fun x => x.add s0_1.toNat)) (s0_0.drop s0_1.toNat).length (s0_0.drop s0_1.toNat) := Kd.C_below hmid (below_drew1 (Below.refl _ _))
  have hLK := fun (A0 : Option Addr) (c0 : Nat) (W : World) h1 h2 => num_short.calls k A0 c0 (s0_0.drop s0_1.toNat) t1 t2 t3 W h1 h2 ht
  generalize hL : s0_0.drop s0_1.toNat = l1 at *
  clear hmid hL ht hC hr hf hb
  by_cases hcs : c1 = s0_1.toNat
  case' pos => rw [if_pos hcs] at hKC; subst hcs
  case' neg => rw [if_neg hcs] at hKC
  all_goals
    go_enter Tryd.func70, Tryd.ntmps70
    go_wp2_with (go_at_call 72; refine (num_Reader_ok.walk g _ _ _ _ w0 _ hI0).mono ?_; rintro e w' ⟨he, rfl⟩; rw [d0] at he; subst he)
    go_region_with (go_at_call 95; refine (hLK _ _ _ hKC (by omega)).mono ?_; rintro e w2 ⟨rfl, ⟨m, rfl⟩⟩)
    all_goals
      go_wp2_with (go_at_call 34; refine (num_Reader_Fail.calls g _ _ _ _ t3 u1 u2 u3 w0 _ (by repeat (first | exact hI0 | apply IsS127.drewN | apply IsS127.drew)) (by repeat (first | exact hB | apply pw_below_drewN | apply below_drew1)) hu).mono ?_; rintro e w3 ⟨rfl, hI3, hB3, hK3⟩; obtain ⟨A3, c3, ev3, hb3, hc30, hc31, hc32, hfz3, _, _⟩ := hI3.open)
      go_ret
      exact ⟨rfl, hI3.set_1 _, hB3.setCell (p := ⟨g, 1, none⟩) hg _, KeepBut.set_ (KeepBut.trans (by repeat (first | exact KeepBut.refl _ _ _ | apply keep_drewN | apply keep_drew)) hK3 (.inl rfl)) _ _⟩

/-! ### num_Reader_Left: function 38 -/
set_option maxHeartbeats 4000000 in
theorem num_Reader_Left.walk (g : Nat) (s0_0 : List Int) (s0_1 : Int) (s0_2 : Int) (s0_3 : Int) (w0 w : World) (hI : IsS127 w0 w g s0_0 s0_1 s0_2 s0_3) :
    Calls Tryd.prog 38 #[.pointer (some ⟨g, 0, none⟩)] w fun e w' => e = .returned (.int .i64 (wrap64 ((s0_0.length : Int) - s0_1))) ∧ Drawn0 w w' := by
  obtain ⟨A, c, ev, hb, hc0, hc1, hc2, hfz, hr, hf⟩ := hI.open
  have e1 : ∀ w, (binOp BinOp.eql 76 (.pointer (some ⟨g, 0, none⟩)) (.pointer none)).run Tryd.prog w = .ok (.bool false) w := fun w => by kernel_rfl
  go_enter Tryd.func38, Tryd.ntmps38
  go_wp2
  go_quiet (fail)
  go_wp2
  go_ret
  exact ⟨rfl, ⟨_, rfl⟩⟩
def num_Reader_Left.f (s0_0 : List Int) (s0_1 : Int) (s0_2 : Int) (s0_3 : Int) : Option (Int × Int × Int × Int) := some (wrap64 ((s0_0.length : Int) - s0_1), s0_1, s0_2, s0_3)
theorem num_Reader_Left.calls (g : Nat) (s0_0 : List Int) (s0_1 : Int) (s0_2 : Int) (s0_3 : Int) (r1 : Int) (r2 r3 r4 : Int) (w0 w : World) (hI : IsS127 w0 w g s0_0 s0_1 s0_2 s0_3) (hB : Below w0.heap.size w0 w) (h : num_Reader_Left.f s0_0 s0_1 s0_2 s0_3 = some (r1, r2, r3, r4)) :
    Calls Tryd.prog 38 #[.pointer (some ⟨g, 0, none⟩)] w fun e w' => e = .returned (.int .i64 r1) ∧ IsS127 w0 w' g s0_0 r2 r3 r4 ∧ Below w0.heap.size w0 w' ∧ KeepBut w w' g none := by
  simp only [num_Reader_Left.f, Option.some.injEq, Prod.mk.injEq] at h
  obtain ⟨rfl, rfl, rfl, rfl⟩ := h
  refine (num_Reader_Left.walk g s0_0 s0_1 s0_2 s0_3 w0 w hI).mono ?_
  rintro e w' ⟨rfl, ⟨m, rfl⟩⟩
  exact ⟨rfl, hI.drewN m, pw_below_drewN hB m, keep_drewN (KeepBut.refl _ _ _) m⟩

/-! ### num_Reader_Take: function 37 -/
def num_Reader_Take.f (s0_0 : List Int) (s0_1 : Int) (s0_2 : Int) (s0_3 : Int) (a1 : Int) : Option (List Int × Int × Int × Int) :=
  if 0 ≤ s0_1 ∧ s0_1 ≤ (s0_0.length : Int) ∧ (s0_0.length : Int) ≤ 140737488355328 then
    if s0_2 ≠ 0 then some ([], s0_1, s0_2, s0_3)
    else if a1 < 0 then some ([], s0_1, 1, s0_1)
    else if (s0_0.length : Int) - s0_1 < a1 then some ([], s0_1, 2, s0_1)
    else some ((s0_0.drop s0_1.toNat).take a1.toNat, s0_1 + a1, 0, s0_3)
  else none
set_option maxHeartbeats 4000000 in
theorem num_Reader_Take.calls (g : Nat) (s0_0 : List Int) (s0_1 : Int) (s0_2 : Int) (s0_3 : Int) (a1 : Int) (r1 : List Int) (r2 r3 r4 : Int) (w0 w : World) (hI : IsS127 w0 w g s0_0 s0_1 s0_2 s0_3) (hB : Below w0.heap.size w0 w) (h : num_Reader_Take.f s0_0 s0_1 s0_2 s0_3 a1 = some (r1, r2, r3, r4)) :
    Calls Tryd.prog 37 #[.pointer (some ⟨g, 0, none⟩), .int .i64 a1] w fun e w' => ∃ v0_ : Value, e = .returned v0_ ∧ (Kd.int .u8).R 5 w' w.heap.size (fun _ => True) v0_ r1 ∧ IsS127 w0 w' g s0_0 r2 r3 r4 ∧ Below w0.heap.size w0 w' ∧ KeepBut w w' g none := by
  unfold num_Reader_Take.f at h
  by_cases hb0 : 0 ≤ s0_1 ∧ s0_1 ≤ (s0_0.length : Int) ∧ (s0_0.length : Int) ≤ 140737488355328
  case neg => rw [if_neg hb0] at h; cases h
  rw [if_pos hb0] at h
  have hw : wrap64 ((s0_0.length : Int) - s0_1) = (s0_0.length : Int) - s0_1 := by unfold wrap64; omega
  have hI0 := hI
  obtain ⟨A, c, ev, hb, hc0, hc1, hc2, hfz, hr, hf⟩ := hI.open
  have hg := hI.ge
  have hlt := hI.lt
  by_cases h0 : s0_2 = 0
  case neg =>
    rw [if_pos h0] at h
    simp only [Option.some.injEq, Prod.mk.injEq] at h
    obtain ⟨rfl, rfl, rfl, rfl⟩ := h
    have d0 : decide (s0_2 = 0) = false := decide_eq_false h0
    go_enter Tryd.func37, Tryd.ntmps37
    go_wp2_with (go_at_call 72; refine (num_Reader_ok.walk g _ _ _ _ w0 w hI0).mono ?_; rintro e w' ⟨he, rfl⟩; rw [d0] at he; subst he)
    go_ret
    exact ⟨_, rfl, Kd.R_nil _ _ _ _ _, hI0, hB, KeepBut.refl _ _ _⟩
  rw [if_neg (by simp [h0])] at h
  have d0 : decide (s0_2 = 0) = true := decide_eq_true h0
  by_cases h1 : a1 < 0
  · rw [if_pos h1] at h
    simp only [Option.some.injEq, Prod.mk.injEq] at h
    obtain ⟨rfl, rfl, rfl, rfl⟩ := h
    have d1 : decide (a1 < 0) = true := decide_eq_true h1
    have hn : num_Reader_Fail.next s0_2 s0_1 s0_3 1 = (1, s0_1) := if_pos ⟨h0, by decide⟩
    have hF := num_Reader_Fail.walk g s0_0 s0_1 s0_2 s0_3 1 w0 w hI0 hB
    rw [hn] at hF
    go_enter Tryd.func37, Tryd.ntmps37
    go_wp2_with (first | (go_at_call 72; refine (num_Reader_ok.walk g _ _ _ _ w0 w hI0).mono ?_; rintro e w' ⟨he, rfl⟩; rw [d0] at he; subst he) | (go_at_call 34; refine hF.mono ?_; rintro e w1 ⟨rfl, hI1, hB1, hK1⟩))
    go_ret
    exact ⟨_, rfl, Kd.R_nil _ _ _ _ _, hI1, hB1, hK1⟩
  rw [if_neg h1] at h
  have d1 : decide (a1 < 0) = false := decide_eq_false h1
  by_cases h2 : (s0_0.length : Int) - s0_1 < a1
  · rw [if_pos h2] at h
    simp only [Option.some.injEq, Prod.mk.injEq] at h
    obtain ⟨rfl, rfl, rfl, rfl⟩ := h
    have d2 : decide ((s0_0.length : Int) - s0_1 < a1) = true := decide_eq_true h2
    have hn : num_Reader_Fail.next s0_2 s0_1 s0_3 2 = (2, s0_1) := if_pos ⟨h0, by decide⟩
    have hF := fun m => num_Reader_Fail.walk g s0_0 s0_1 s0_2 s0_3 2 w0 (w.drewN m) (hI0.drewN m) (pw_below_drewN hB m)
    rw [hn] at hF
    go_enter Tryd.func37, Tryd.ntmps37
    go_wp2_with (first | (go_at_call 72; refine (num_Reader_ok.walk g _ _ _ _ w0 w hI0).mono ?_; rintro e w' ⟨he, rfl⟩; rw [d0] at he; subst he) | (go_at_call 38; refine (num_Reader_Left.walk g _ _ _ _ w0 _ hI0).mono ?_; rintro e w' ⟨rfl, ⟨m, rfl⟩⟩; rw [hw]) | (go_at_call 34; refine (hF _).mono ?_; rintro e w1 ⟨rfl, hI1, hB1, hK1⟩))
    go_ret
    exact ⟨_, rfl, Kd.R_nil _ _ _ _ _, hI1, hB1, hK1⟩
  rw [if_neg h2] at h
  have d2 : decide ((s0_0.length : Int) - s0_1 < a1) = false := decide_eq_false h2
  simp only [Option.some.injEq, Prod.mk.injEq] at h
  obtain ⟨rfl, rfl, rfl, rfl⟩ := h
  have hw2 : wrap64 (s0_1 + a1) = s0_1 + a1 := by unfold wrap64; omega
  obtain ⟨hb1, hb2, hb3⟩ := hb0
  go_enter Tryd.func37, Tryd.ntmps37
  go_wp2_with (first | (go_at_call 72; refine (num_Reader_ok.walk g _ _ _ _ w0 w hI0).mono ?_; rintro e w' ⟨he, rfl⟩; rw [d0] at he; subst he) | (go_at_call 38; refine (num_Reader_Left.walk g _ _ _ _ w0 _ hI0).mono ?_; rintro e w' ⟨rfl, ⟨m, rfl⟩⟩; rw [hw]))
  have hI1 := (hI0.drewN m).set_1 (s0_1 + a1)
  have hB1 := (pw_below_drewN hB m).setCell (p := ⟨g, 1, none⟩) hg (.int .i64 (s0_1 + a1))
  have hK1 := KeepBut.set_ (keep_drewN (KeepBut.refl w' g none) m) 1 (.int .i64 (s0_1 + a1))
  generalize (w'.drewN m).setCell ⟨g, 1, none⟩ (.int .i64 (s0_1 + a1)) = W0 at hI1 hB1 hK1 ⊢
  have hw3 : wrap64 (s0_1 + a1 - a1) = s0_1 := by unfold wrap64; omega
  have hw5 : IntKind.i64.wrap (s0_1 + a1 - a1) = s0_1 := (IntKind.wrap_i64 _).trans (by omega)
  have hlen : ((s0_0.drop s0_1.toNat).take a1.toNat).length = a1.toNat := by rw [List.length_take, List.length_drop]; omega
  have hxy : (s0_0.take (s0_1 + a1).toNat).drop s0_1.toNat = (s0_0.drop s0_1.toNat).take a1.toNat := by rw [List.drop_take]; congr 1; omega
  have hst : (s0_1 + a1).toNat - s0_1.toNat = ((s0_0.drop s0_1.toNat).take a1.toNat).length := by rw [hlen]; omega
  have hl1 : s0_1 ≤ s0_1 + a1 := by omega
  have hl2 : s0_1 + a1 ≤ (s0_0.length : Int) := by omega
  have hl3 : (s0_1 + a1).toNat ≤ s0_0.length := by omega
  have hl4 : s0_1.toNat ≤ (s0_1 + a1).toNat := by omega
  have hfc : bytes_Clone.f ((s0_0.drop s0_1.toNat).take a1.toNat) = some ((s0_0.drop s0_1.toNat).take a1.toNat) := by unfold bytes_Clone.f; rw [if_pos (by rw [hlen]; omega)]
  have hsz0 : w'.heap.size ≤ W0.heap.size := hK1.1
  clear hc0 hc1 hc2 hr hf hb hfz hw2 hw hI hI0 h2 d2 d1 h1
  generalize hT : s0_1 + a1 = t1 at *
  generalize hL : (s0_0.drop s0_1.toNat).take a1.toNat = l1 at *
  have HT := Aside0.mk hT
  have HL := Aside0.mk hL
  clear hT hL
  have hI2 := hI1.drew
  rw [h0] at hI2
  obtain ⟨A1, c1, ev1, hbA, hcA0, hcA1, _, _, hrA, _⟩ := hI1.open
  obtain ⟨_, hcc, hC⟩ := Kd.R_reads' hrA
  have hmid := Kd.C_mid hC hl4 hl3 hcc
  rw [hxy] at hmid
  have hmid : (Kd.int .u8).C W0 (if c1 = s0_1.toNat then A1 else A1.map (fun x => x.add s0_1.toNat)) l1.length l1 := by simpa [Kd.int, Kd.scalar] using hmid
  have hle : l1.length ≤ c1 - s0_1.toNat := by omega
  have hl5 : t1 ≤ (c1 : Int) := by omega
  clear hrA hC hbA hxy hlen hl2 hl3 hl4 hb2 hb3
  have hKC : Kd.C (Kd.int .u8) W0.drew (if c1 = s0_1.toNat then A1 else A1.map (fun x => x.add s0_1.toNat)) l1.length l1 := Kd.C_below hmid (below_drew1 (Below.refl _ _))
  have hdr : Below W0.heap.size W0 W0.drew := below_drew1 (Below.refl _ _)
  by_cases hcs : c1 = s0_1.toNat
  · rw [if_pos hcs] at hKC
    subst hcs
    go_region_with (go_at_call 69; refine (bytes_Clone.calls _ _ l1 l1 W0.drew hKC (by omega) hfc).mono ?_; rintro e w1 ⟨v, rfl, hR, hB2⟩)
    all_goals (go_wp2; go_ret; exact ⟨_, rfl, by rw [HL.out]; exact Kd.R_lower hR hsz0, by rw [HT.out]; exact hI2.below hB2, below_step (below_drew1 hB1) hB2, (keep_drew hK1).trans (KeepBut.of_below hB2 g none) (.inl rfl)⟩)
  · rw [if_neg hcs] at hKC
    go_region_with (go_at_call 69; refine (bytes_Clone.calls _ _ l1 l1 W0.drew hKC hle hfc).mono ?_; rintro e w1 ⟨v, rfl, hR, hB2⟩)
    all_goals (go_wp2; go_ret; exact ⟨_, rfl, by rw [HL.out]; exact Kd.R_lower hR hsz0, by rw [HT.out]; exact hI2.below hB2, below_step (below_drew1 hB1) hB2, (keep_drew hK1).trans (KeepBut.of_below hB2 g none) (.inl rfl)⟩)

end Go.Proofs.YtbkocklahdlgkaaDoor.PTextsBack
