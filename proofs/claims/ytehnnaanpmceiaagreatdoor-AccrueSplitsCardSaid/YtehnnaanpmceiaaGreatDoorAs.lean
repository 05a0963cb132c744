/-
  errors.As, at a target that is a variable of the program's own error type: nil, and an error of just that type. (Turned from the worked example of the kit.)
-/
import Derived.Test.YtehnnaanpmceiaaGreatDoorProg
import Derived.WalkKit
import Derived.LaidEql
import Derived.Stop.Asserts
import Derived.RowKitTokens
set_option linter.unusedVariables false
set_option linter.unusedSimpArgs false
namespace Go.Proofs.YtehnnaanpmceiaaGreatDoor
open Go Go.RowKit Go.Extern.Stop Go.Stop Go.Extern

/-- errors.As(nil, target). -/
theorem as_nil (t : Value) (w : World) :
    Calls Tryz.prog 74 #[.nilIface, t] w fun e w' => e = .returned (.bool false) ∧ w' = w := by
  go_enter Tryz.func74, Tryz.ntmps74
  go_wp2
  go_ret
  exact ⟨rfl, rfl⟩

/-! ### CLOSED FACTS ON THE MODEL's ENTRIES FOR internal/reflectlite, at this program's types: 25: *p.E · 27: **p.E · 23: error · 45: reflectlite's rtype · 1: how many package-level variables the dump has -/
theorem As.valueOf27 (t : Addr) (w : World) : (ReflectliteValue.unpack (.iface 192 (.pointer (some t)))).run Tryz.prog w
    = .ok (.agg #[.pointer (some ⟨9, 192, none⟩), .pointer (some ⟨w.heap.size, 0, none⟩), .int .u64 150]) (w.alloc (.cells #[.pointer (some t)] 192)) := by kernel_rfl
theorem As.type27 (a : Addr) (w : World) : (ReflectliteValue.methodAny (ReflectliteValue.valueError "reflectlite.Value.Type" 0) (fun t _ _ _ => ReflectliteType.toType t) #[.agg #[.pointer (some ⟨9, 192, none⟩), .pointer (some a), .int .u64 150]]).run Tryz.prog w
    = .ok (.iface 208 (.agg #[.pointer (some ⟨9, 192, none⟩)])) w := by kernel_rfl
theorem As.methodKind (h : Value) (w : World) : (Go.method 388 208 (.agg #[h]) "Kind").run Tryz.prog w = .ok (196, h) w := by kernel_rfl
theorem As.kind27 (w : World) : ((ReflectliteType.abiMethod fun t => (fun a : Nat => Value.int IntKind.u8 (a : Int)) <$> Rtype.kind t) #[.pointer (some ⟨9, 192, none⟩)]).run Tryz.prog w = .ok (.int .u8 22) w := by kernel_rfl
theorem As.kind25 (w : World) : ((ReflectliteType.abiMethod fun t => (fun a : Nat => Value.int IntKind.u8 (a : Int)) <$> Rtype.kind t) #[.pointer (some ⟨9, 191, none⟩)]).run Tryz.prog w = .ok (.int .u8 25) w := by kernel_rfl

/-! ### THE ENTRIES THAT READ OR WRITE MEMORY: laws with a premise on the cell (after Derived/Lib/ReflectliteSlice.lean's manner: each unfolding a lemma of its own, by rfl) -/
theorem rlm (z : Sem Value) (f : TypeId → Addr → Nat → Nat → Sem Value) (v : Value) :
    ReflectliteValue.method z f #[v] = (do match ← ReflectliteValue.parts v with | none => z | some (t, a, fl) => f t a fl (fl % 32)) := rfl
theorem As.parts27 (a : Addr) (w : World) : (ReflectliteValue.parts (.agg #[.pointer (some ⟨9, 192, none⟩), .pointer (some a), .int .u64 150])).run Tryz.prog w = .ok (some (192, a, 150)) w := by kernel_rfl
/-- (Value).IsNil at the Value of a **p.E that is not nil. -/
theorem As.isNil27 (a p : Addr) (W : World) (ha : W.cell? a = some (.pointer (some p))) :
    (ReflectliteValue.method (ReflectliteValue.valueError "reflectlite.Value.IsNil" 0) ReflectliteValue.isNil #[.agg #[.pointer (some ⟨9, 192, none⟩), .pointer (some a), .int .u64 150]]).run Tryz.prog W = .ok (.bool false) W := by
  rw [rlm]
  simp only [Sem.run_bind, As.parts27, Result.andThen]
  simp [ReflectliteValue.isNil, loadVar, isAgg, underlying, Tryz.underlying192, ha, Result.andThen]

theorem As.methodElem (h : Value) (w : World) : (Go.method 388 208 (.agg #[h]) "Elem").run Tryz.prog w = .ok (208, .agg #[h]) w := by kernel_rfl
theorem As.methodImplements (h : Value) (w : World) : (Go.method 388 208 (.agg #[h]) "Implements").run Tryz.prog w = .ok (209, .agg #[h]) w := by kernel_rfl
theorem As.methodAssignableTo (h : Value) (w : World) : (Go.method 388 208 (.agg #[h]) "AssignableTo").run Tryz.prog w = .ok (206, .agg #[h]) w := by kernel_rfl
theorem As.elem27 (w : World) : (ReflectliteType.method ReflectliteType.elem #[.agg #[.pointer (some ⟨9, 192, none⟩)]]).run Tryz.prog w = .ok (.iface 208 (.agg #[.pointer (some ⟨9, 191, none⟩)])) w := by kernel_rfl
theorem As.implements25 (w : World) : (ReflectliteType.relation "Implements" ReflectliteType.implements_ #[.agg #[.pointer (some ⟨9, 191, none⟩)], .iface 208 (.agg #[.pointer (some ⟨9, 125, none⟩)])]).run Tryz.prog w = .ok (.bool true) w := by kernel_rfl
theorem As.typeOf25 (v : Value) (w : World) : (ReflectliteType.typeOf #[.iface 191 v]).run Tryz.prog w = .ok (.iface 208 (.agg #[.pointer (some ⟨9, 191, none⟩)])) w := by kernel_rfl
theorem As.assignable25 (w : World) : (ReflectliteType.relation "AssignableTo" ReflectliteType.assignableTo #[.agg #[.pointer (some ⟨9, 191, none⟩)], .iface 208 (.agg #[.pointer (some ⟨9, 191, none⟩)])]).run Tryz.prog w = .ok (.bool true) w := by kernel_rfl
theorem As.valueOf25 (c : Int) (w : World) : (ReflectliteValue.unpack (.iface 191 (.agg #[.int .i64 c]))).run Tryz.prog w
    = .ok (.agg #[.pointer (some ⟨9, 191, none⟩), .pointer (some ⟨w.heap.size, 0, none⟩), .int .u64 153]) (w.alloc (.cells #[.int .i64 c] 191)) := by kernel_rfl

theorem As.elemOf27 (w : World) : (Rtype.elem? 192).run Tryz.prog w = .ok (some 191) w := by kernel_rfl
theorem As.mk25 (p : Addr) (w : World) : (ReflectliteValue.mk 191 p ReflectliteValue.flagAddr).run Tryz.prog w = .ok (.agg #[.pointer (some ⟨9, 191, none⟩), .pointer (some p), .int .u64 409]) w := by kernel_rfl
/-- (Value).Elem at the Value of a **p.E that is not nil: the Value of the *p.E variable that it points to, addressable. -/
theorem As.elemV27 (a p : Addr) (W : World) (ha : W.cell? a = some (.pointer (some p))) :
    (ReflectliteValue.method (ReflectliteValue.valueError "reflectlite.Value.Elem" 0) ReflectliteValue.elem #[.agg #[.pointer (some ⟨9, 192, none⟩), .pointer (some a), .int .u64 150]]).run Tryz.prog W
      = .ok (.agg #[.pointer (some ⟨9, 191, none⟩), .pointer (some p), .int .u64 409]) W := by
  rw [rlm]
  simp only [Sem.run_bind, As.parts27, Result.andThen]
  simp [ReflectliteValue.elem, loadVar, isAgg, underlying, Tryz.underlying192, ha, Result.andThen, As.elemOf27, As.mk25]
theorem rls (v x : Value) : ReflectliteValue.set #[v, x] = (do
    let (some (dst, a, fl), some (src, b, _)) := (← ReflectliteValue.parts v, ← ReflectliteValue.parts x)
      | unsupported (.noEntry "extern/(internal/reflectlite.Value).Set.zeroValue")
    if fl / ReflectliteValue.flagAddr % 2 == 0 then unsupported (.noEntry "extern/(internal/reflectlite.Value).Set.unaddressable")
    let val ← loadVar src b
    if ← Rtype.directlyAssignable dst src then storeVar dst a val
    else if ← Rtype.implements dst src then
      if (← Rtype.kind src) == 20 then
        match val with
        | .nilIface => unsupported (.noEntry "extern/reflectlite: a nil value of one interface type handed on as a value of another")
        | _ => storeVar dst a val
      else storeVar dst a (.iface src val)
    else panicString ("reflectlite.Set: value of type " ++ (← Rtype.spelt src) ++ " is not assignable to type " ++ (← Rtype.spelt dst))
    pure (.tuple #[])) := rfl
theorem As.parts25a (a : Addr) (w : World) : (ReflectliteValue.parts (.agg #[.pointer (some ⟨9, 191, none⟩), .pointer (some a), .int .u64 409])).run Tryz.prog w = .ok (some (191, a, 409)) w := by kernel_rfl
theorem As.parts25 (a : Addr) (w : World) : (ReflectliteValue.parts (.agg #[.pointer (some ⟨9, 191, none⟩), .pointer (some a), .int .u64 153])).run Tryz.prog w = .ok (some (191, a, 153)) w := by kernel_rfl
theorem As.direct25 (w : World) : (Rtype.directlyAssignable 191 191).run Tryz.prog w = .ok true w := by kernel_rfl
theorem As.size25 (w : World) : (sizeOf 191).run Tryz.prog w = .ok 1 w := by kernel_rfl
/-- (Value).Set: the *p.E variable at 'ta' gets what the Value's own variable 'b' holds. -/
theorem As.set25 (ta b : Addr) (c : Int) (old : Value) (W : World) (hb : W.cell? b = some (.int .i64 c)) (ht : W.cell? ta = some old) (hf : W.frozen? ta = false) :
    (ReflectliteValue.set #[.agg #[.pointer (some ⟨9, 191, none⟩), .pointer (some ta), .int .u64 409], .agg #[.pointer (some ⟨9, 191, none⟩), .pointer (some b), .int .u64 153]]).run Tryz.prog W
      = .ok (.tuple #[]) (W.setCell ta (.int .i64 c)) := by
  have hl1 : (loadCells b 1).run Tryz.prog W = .ok #[.int .i64 c] W := by
    have := run_loadCells (P := Tryz.prog) W b 1 (fun _ => Value.int .i64 c) (fun j hj => by
      have : j = 0 := by omega
      subst this
      simpa [Addr.add] using hb)
    simpa using this
  have hload : (loadVar 191 b).run Tryz.prog W = .ok (.agg #[.int .i64 c]) W := by
    simp [loadVar, isAgg, underlying, Tryz.underlying191, Result.andThen, Sem.run_bind, As.size25, hl1]
  have hstore : (storeVar 191 ta (.agg #[.int .i64 c])).run Tryz.prog W = .ok () (W.setCell ta (.int .i64 c)) := by
    simp [storeVar, Value.cells, storeCells, Addr.add, Sem.run_bind, As.size25, Result.andThen]
    rw [run_store Tryz.prog W ta _ _ (by rfl)]
    simp [ht, hf]
  rw [rls]
  simp only [Sem.run_bind, As.parts25a, As.parts25, Result.andThen]
  simp [ReflectliteValue.flagAddr, Sem.run_bind, hload, hstore, Result.andThen, As.direct25]

set_option maxHeartbeats 4000000 in
theorem as_hit (c : Int) (t : Addr) (old : Value) (w : World) (hg : w.cell? ⟨2, 0, none⟩ = some (.iface 208 (.agg #[.pointer (some ⟨9, 125, none⟩)]))) (ht0 : w.cell? t = some old) (hf0 : w.frozen? t = false) :
    Calls Tryz.prog 74 #[.iface 191 (.agg #[.int .i64 c]), .iface 192 (.pointer (some t))] w fun ev w' => ev = .returned (.bool true) ∧ w' = ((((w.alloc (.cells #[.pointer (some t)] 192)).alloc (.cells #[.pointer (some ⟨9, 192, none⟩), .pointer (some ⟨w.heap.size, 0, none⟩), .int .u64 150] 164)).alloc (.cells #[.pointer (some ⟨9, 192, none⟩), .pointer (some ⟨w.heap.size, 0, none⟩), .int .u64 150] 164)).alloc (.cells #[.int .i64 c] 191)).setCell t (.int .i64 c) := by
  have h6 := @run_callFunc_extern Tryz.prog 112 _ (fun args => ReflectliteValue.unpack (args.getD 0 (.tuple #[]))) Tryz.func112 (by kernel_rfl) (by kernel_rfl) (by kernel_rfl) (by kernel_rfl)
  have h7 := @run_callFunc_extern Tryz.prog 113 _ (ReflectliteValue.methodAny (ReflectliteValue.valueError "reflectlite.Value.Type" 0) (fun t _ _ _ => ReflectliteType.toType t)) Tryz.func113 (by kernel_rfl) (by kernel_rfl) (by kernel_rfl) (by kernel_rfl)
  have h8 := @run_callFunc_extern Tryz.prog 114 _ (ReflectliteValue.method (ReflectliteValue.valueError "reflectlite.Value.IsNil" 0) ReflectliteValue.isNil) Tryz.func114 (by kernel_rfl) (by kernel_rfl) (by kernel_rfl) (by kernel_rfl)
  have h27 := @run_callFunc_extern Tryz.prog 196 _ (ReflectliteType.abiMethod fun t => do pure (.int .u8 (← Rtype.kind t))) Tryz.func196 (by kernel_rfl) (by kernel_rfl) (by kernel_rfl) (by kernel_rfl)
  have h37 := @run_callFunc_extern Tryz.prog 208 _ (ReflectliteType.method ReflectliteType.elem) Tryz.func208 (by kernel_rfl) (by kernel_rfl) (by kernel_rfl) (by kernel_rfl)
  have h38 := @run_callFunc_extern Tryz.prog 209 _ (ReflectliteType.relation "Implements" ReflectliteType.implements_) Tryz.func209 (by kernel_rfl) (by kernel_rfl) (by kernel_rfl) (by kernel_rfl)
  have h10 := @run_callFunc_extern Tryz.prog 143 _ ReflectliteType.typeOf Tryz.func143 (by kernel_rfl) (by kernel_rfl) (by kernel_rfl) (by kernel_rfl)
  have h35 := @run_callFunc_extern Tryz.prog 206 _ (ReflectliteType.relation "AssignableTo" ReflectliteType.assignableTo) Tryz.func206 (by kernel_rfl) (by kernel_rfl) (by kernel_rfl) (by kernel_rfl)
  have h11 := @run_callFunc_extern Tryz.prog 146 _ (ReflectliteValue.method (ReflectliteValue.valueError "reflectlite.Value.Elem" 0) ReflectliteValue.elem) Tryz.func146 (by kernel_rfl) (by kernel_rfl) (by kernel_rfl) (by kernel_rfl)
  have h12 := @run_callFunc_extern Tryz.prog 147 _ ReflectliteValue.set Tryz.func147 (by kernel_rfl) (by kernel_rfl) (by kernel_rfl) (by kernel_rfl)
  have tO := As.typeOf25
  have mA := As.methodAssignableTo
  have a25 := As.assignable25
  have v25 := As.valueOf25
  have f6 := As.valueOf27
  have f7 := As.type27
  have mK := As.methodKind
  have mE := As.methodElem
  have mI := As.methodImplements
  have k27 := As.kind27
  have k25 := As.kind25
  have e27 := As.elem27
  have i25 := As.implements25
  have n8 := As.isNil27 ⟨w.heap.size, 0, none⟩ t ((w.alloc (.cells #[.pointer (some t)] 192)).alloc (.cells #[.pointer (some ⟨9, 192, none⟩), .pointer (some ⟨w.heap.size, 0, none⟩), .int .u64 150] 164)) (by simp)
  have hlt : 2 < w.heap.size := World.block_lt_of_cell? w _ hg
  have hg2 : ((w.alloc (.cells #[.pointer (some t)] 192)).alloc (.cells #[.pointer (some ⟨9, 192, none⟩), .pointer (some ⟨w.heap.size, 0, none⟩), .int .u64 150] 164)).cell? ⟨2, 0, none⟩ = some (.iface 208 (.agg #[.pointer (some ⟨9, 125, none⟩)])) := by
    rw [World.cell?_alloc_lt _ _ ⟨2, 0, none⟩ (Nat.lt_of_lt_of_le hlt (by simp)), World.cell?_alloc_lt _ _ ⟨2, 0, none⟩ hlt]; exact hg
  have htl : t.block < w.heap.size := by
    rcases Nat.lt_or_ge t.block w.heap.size with h | h
    · exact h
    · simp [World.cell?, Array.getElem?_eq_none h] at ht0
  have el := As.elemV27 ⟨w.heap.size, 0, none⟩ t (((w.alloc (.cells #[.pointer (some t)] 192)).alloc (.cells #[.pointer (some ⟨9, 192, none⟩), .pointer (some ⟨w.heap.size, 0, none⟩), .int .u64 150] 164)).alloc (.cells #[.pointer (some ⟨9, 192, none⟩), .pointer (some ⟨w.heap.size, 0, none⟩), .int .u64 150] 164)) (by rw [World.cell?_alloc_lt _ _ ⟨w.heap.size, 0, none⟩ (by simp; omega)]; simp)
  have st := As.set25 t ⟨w.heap.size + 1 + 1 + 1, 0, none⟩ c old ((((w.alloc (.cells #[.pointer (some t)] 192)).alloc (.cells #[.pointer (some ⟨9, 192, none⟩), .pointer (some ⟨w.heap.size, 0, none⟩), .int .u64 150] 164)).alloc (.cells #[.pointer (some ⟨9, 192, none⟩), .pointer (some ⟨w.heap.size, 0, none⟩), .int .u64 150] 164)).alloc (.cells #[.int .i64 c] 191))
    (by rw [World.cell?_alloc_at _ _ _ _ (by simp)]; rfl)
    (by rw [World.cell?_alloc_lt _ _ t (by simp; omega), World.cell?_alloc_lt _ _ t (by simp; omega), World.cell?_alloc_lt _ _ t (by simp; omega), World.cell?_alloc_lt _ _ t htl]; exact ht0)
    (by rw [World.frozen?_alloc_old _ _ t (by simp; omega), World.frozen?_alloc_old _ _ t (by simp; omega), World.frozen?_alloc_old _ _ t (by simp; omega), World.frozen?_alloc_old _ _ t (Nat.ne_of_lt htl)]; exact hf0)
  go_enter Tryz.func74, Tryz.ntmps74
  go_wp2
  refine wp_loop_rounds 1 ?_
  rw [rounds_succ]
  go_wp2
  go_ret
  exact ⟨rfl, rfl⟩

end Go.Proofs.YtehnnaanpmceiaaGreatDoor
