/-
errors.As, at a target that is a variable of the type terms.fault, and an error of just that type. (Turned from the worked example of the kit.)
-/
import Derived.Test.YtelidogcomffkaaGreatDoorBit
import Derived.Test.YtelidogcomffkaaGreatDoorProg
import Derived.WalkKit
import Derived.LaidEql
import Derived.Stop.Asserts
import Derived.RowKitTokens
import Derived.Deep.WholeRow
import Derived.MapKept
set_option linter.unusedSimpArgs false
set_option linter.unusedVariables false
set_option maxRecDepth 100000
namespace Go.Proofs.YtelidogcomffkaaGreatDoor
open Go Go.Sx Go.RowKit Go.Extern.Stop Go.Stop Go.Extern
theorem as_nilT (t:Value) (w:World):
  Calls Tryz.prog 138 #[.nilIface,t] w fun e w'=>e= .returned (.bool false)∧w'=w:=by
 go_enter Tryz.func138,Tryz.ntmps138
 go_wp2
 go_ret
 exact⟨rfl,rfl⟩
theorem AsT.valueOf27 (t:Addr) (w:World):(ReflectliteValue.unpack (.iface 211 (.pointer (some t)))).run Tryz.prog w
  = .ok (.agg #[.pointer (some ⟨9,211,none⟩), .pointer (some ⟨w.heap.size,0,none⟩), .int .u64 150]) (w.alloc (.cells #[.pointer (some t)] 211)):=by kernel_rfl
theorem AsT.type27 (a:Addr) (w:World):(ReflectliteValue.methodAny (ReflectliteValue.valueError "reflectlite.Value.Type" 0) (fun t _ _ _=>ReflectliteType.toType t) #[.agg #[.pointer (some ⟨9,211,none⟩), .pointer (some a), .int .u64 150]]).run Tryz.prog w
  = .ok (.iface 287 (.agg #[.pointer (some ⟨9,211,none⟩)])) w:=by kernel_rfl
theorem AsT.methodKind (h:Value) (w:World):(Go.method 474 287 (.agg #[h]) "Kind").run Tryz.prog w= .ok (283,h) w:=by kernel_rfl
theorem AsT.kind27 (w:World):((ReflectliteType.abiMethod fun t=>(fun a:Nat=>Value.int IntKind.u8 (a:Int)) <$> Rtype.kind t) #[.pointer (some ⟨9,211,none⟩)]).run Tryz.prog w= .ok (.int .u8 22) w:=by kernel_rfl
theorem AsT.kind25 (w:World):((ReflectliteType.abiMethod fun t=>(fun a:Nat=>Value.int IntKind.u8 (a:Int)) <$> Rtype.kind t) #[.pointer (some ⟨9,205,none⟩)]).run Tryz.prog w= .ok (.int .u8 25) w:=by kernel_rfl
theorem rlmT (z:Sem Value) (f:TypeId→Addr→Nat→Nat→Sem Value) (v:Value):
  ReflectliteValue.method z f #[v]=(do match←ReflectliteValue.parts v with|none=>z|some (t,a,fl)=>f t a fl (fl%32)):=rfl
theorem AsT.parts27 (a:Addr) (w:World):(ReflectliteValue.parts (.agg #[.pointer (some ⟨9,211,none⟩), .pointer (some a), .int .u64 150])).run Tryz.prog w= .ok (some (211,a,150)) w:=by kernel_rfl
theorem AsT.isNil27 (a p:Addr) (W:World) (ha:W.cell? a=some (.pointer (some p))):
  (ReflectliteValue.method (ReflectliteValue.valueError "reflectlite.Value.IsNil" 0) ReflectliteValue.isNil #[.agg #[.pointer (some ⟨9,211,none⟩), .pointer (some a), .int .u64 150]]).run Tryz.prog W= .ok (.bool false) W:=by
 rw[rlmT]
 simp only[Sem.run_bind,AsT.parts27,Result.andThen]
 simp[ReflectliteValue.isNil,loadVar,isAgg,underlying,Tryz.underlying211,ha,Result.andThen]
theorem AsT.methodElem (h:Value) (w:World):(Go.method 474 287 (.agg #[h]) "Elem").run Tryz.prog w= .ok (298, .agg #[h]) w:=by kernel_rfl
theorem AsT.methodImplements (h:Value) (w:World):(Go.method 474 287 (.agg #[h]) "Implements").run Tryz.prog w= .ok (299, .agg #[h]) w:=by kernel_rfl
theorem AsT.methodAssignableTo (h:Value) (w:World):(Go.method 474 287 (.agg #[h]) "AssignableTo").run Tryz.prog w= .ok (296, .agg #[h]) w:=by kernel_rfl
theorem AsT.elem27 (w:World):(ReflectliteType.method ReflectliteType.elem #[.agg #[.pointer (some ⟨9,211,none⟩)]]).run Tryz.prog w= .ok (.iface 287 (.agg #[.pointer (some ⟨9,205,none⟩)])) w:=by kernel_rfl
theorem AsT.implements25 (w:World):(ReflectliteType.relation "Implements" ReflectliteType.implements_ #[.agg #[.pointer (some ⟨9,205,none⟩)], .iface 287 (.agg #[.pointer (some ⟨9,209,none⟩)])]).run Tryz.prog w= .ok (.bool true) w:=by kernel_rfl
theorem AsT.typeOf25 (v:Value) (w:World):(ReflectliteType.typeOf #[.iface 205 v]).run Tryz.prog w= .ok (.iface 287 (.agg #[.pointer (some ⟨9,205,none⟩)])) w:=by kernel_rfl
theorem AsT.assignable25 (w:World):(ReflectliteType.relation "AssignableTo" ReflectliteType.assignableTo #[.agg #[.pointer (some ⟨9,205,none⟩)], .iface 287 (.agg #[.pointer (some ⟨9,205,none⟩)])]).run Tryz.prog w= .ok (.bool true) w:=by kernel_rfl
theorem AsT.valueOf25 (c:Int) (s:ByteArray) (w:World):(ReflectliteValue.unpack (.iface 205 (.agg #[.int .i64 c, .string s]))).run Tryz.prog w
  = .ok (.agg #[.pointer (some ⟨9,205,none⟩), .pointer (some ⟨w.heap.size,0,none⟩), .int .u64 153]) (w.alloc (.cells #[.int .i64 c, .string s] 205)):=by kernel_rfl
theorem AsT.elemOf27 (w:World):(Rtype.elem? 211).run Tryz.prog w= .ok (some 205) w:=by kernel_rfl
theorem AsT.mk25 (p:Addr) (w:World):(ReflectliteValue.mk 205 p ReflectliteValue.flagAddr).run Tryz.prog w= .ok (.agg #[.pointer (some ⟨9,205,none⟩), .pointer (some p), .int .u64 409]) w:=by kernel_rfl
theorem AsT.elemV27 (a p:Addr) (W:World) (ha:W.cell? a=some (.pointer (some p))):
  (ReflectliteValue.method (ReflectliteValue.valueError "reflectlite.Value.Elem" 0) ReflectliteValue.elem #[.agg #[.pointer (some ⟨9,211,none⟩), .pointer (some a), .int .u64 150]]).run Tryz.prog W
   = .ok (.agg #[.pointer (some ⟨9,205,none⟩), .pointer (some p), .int .u64 409]) W:=by
 rw[rlmT]
 simp only[Sem.run_bind,AsT.parts27,Result.andThen]
 simp[ReflectliteValue.elem,loadVar,isAgg,underlying,Tryz.underlying211,ha,Result.andThen,AsT.elemOf27,AsT.mk25]
theorem rlsT (v x:Value):ReflectliteValue.set #[v,x]=(do
  let(some (dst,a,fl),some (src,b,_)):=(←ReflectliteValue.parts v,←ReflectliteValue.parts x)
   |unsupported (.noEntry "extern/(internal/reflectlite.Value).Set.zeroValue")
  if fl/ReflectliteValue.flagAddr%2==0 then unsupported (.noEntry "extern/(internal/reflectlite.Value).Set.unaddressable")
  let val←loadVar src b
  if←Rtype.directlyAssignable dst src then storeVar dst a val
  else if←Rtype.implements dst src then
   if(←Rtype.kind src)==20 then
    match val with
    | .nilIface=>unsupported (.noEntry "extern/reflectlite: a nil value of one interface type handed on as a value of another")
    |_=>storeVar dst a val
   else storeVar dst a (.iface src val)
  else panicString ("reflectlite.Set: value of type " ++(←Rtype.spelt src)++ " is not assignable to type " ++(←Rtype.spelt dst))
  pure (.tuple #[])):=rfl
theorem AsT.parts25a (a:Addr) (w:World):(ReflectliteValue.parts (.agg #[.pointer (some ⟨9,205,none⟩), .pointer (some a), .int .u64 409])).run Tryz.prog w= .ok (some (205,a,409)) w:=by kernel_rfl
theorem AsT.parts25 (a:Addr) (w:World):(ReflectliteValue.parts (.agg #[.pointer (some ⟨9,205,none⟩), .pointer (some a), .int .u64 153])).run Tryz.prog w= .ok (some (205,a,153)) w:=by kernel_rfl
theorem AsT.direct25 (w:World):(Rtype.directlyAssignable 205 205).run Tryz.prog w= .ok true w:=by kernel_rfl
theorem AsT.size25 (w:World):(sizeOf 205).run Tryz.prog w= .ok 2 w:=by kernel_rfl
theorem AsT.size:(Tryz.prog.info? 205).map (·.size)=some 2:=by kernel_rfl
theorem AsT.set25 (bt:Nat) (b:Addr) (c:Int) (s:ByteArray) (old:Array Value) (el:TypeId) (W:World) (hb:W.cell? b=some (.int .i64 c)) (hb1:W.cell? (b.add 1)=some (.string s)) (ht:W.heap[bt]? =some (.cells old el (0,0))) (ho:old.size=2):
  (ReflectliteValue.set #[.agg #[.pointer (some ⟨9,205,none⟩), .pointer (some ⟨bt,0,none⟩), .int .u64 409], .agg #[.pointer (some ⟨9,205,none⟩), .pointer (some b), .int .u64 153]]).run Tryz.prog W
   = .ok (.tuple #[]) (W.setRow bt #[.int .i64 c, .string s]):=by
 have hl1:(loadCells b 2).run Tryz.prog W= .ok #[.int .i64 c, .string s] W:=by
  exact run_loadCells_list (P:=Tryz.prog) W b [.int .i64 c, .string s] (fun j v hv=>by
   match j,hv with
   |0,hv=>simp at hv;subst hv;simpa[Addr.add]using hb
   |1,hv=>simp at hv;subst hv;exact hb1
   |j+2,hv=>simp at hv)
 have hload:(loadVar 205 b).run Tryz.prog W= .ok (.agg #[.int .i64 c, .string s]) W:=by
  simp[loadVar,isAgg,underlying,Tryz.underlying205,Result.andThen,Sem.run_bind,AsT.size25,hl1]
 have hstore:(storeVar 205 ⟨bt,0,none⟩ (.agg #[.int .i64 c, .string s])).run Tryz.prog W= .ok () (W.setRow bt #[.int .i64 c, .string s]):=
  run_storeVar_row (P:=Tryz.prog) W bt el 205 old #[.int .i64 c, .string s] ht AsT.size ho (by
   rw[Array.all_eq_true_iff_forall_mem];intro v hv;simp at hv;rcases hv with rfl|rfl<;>rfl)
 rw[rlsT]
 simp only[Sem.run_bind,AsT.parts25a,AsT.parts25,Result.andThen]
 simp[ReflectliteValue.flagAddr,Sem.run_bind,hload,hstore,Result.andThen,AsT.direct25]
set_option maxHeartbeats 4000000 in
theorem asT_hit (c:Int) (s:ByteArray) (bt:Nat) (old:Array Value) (elT:TypeId) (w:World) (hg:w.cell? ⟨2,0,none⟩=some (.iface 287 (.agg #[.pointer (some ⟨9,209,none⟩)]))) (ht0:w.heap[bt]? =some (.cells old elT (0,0))) (ho:old.size=2):
  Calls Tryz.prog 138 #[.iface 205 (.agg #[.int .i64 c, .string s]), .iface 211 (.pointer (some ⟨bt,0,none⟩))] w fun ev w'=>ev= .returned (.bool true)∧w'=((((w.alloc (.cells #[.pointer (some ⟨bt,0,none⟩)] 211)).alloc (.cells #[.pointer (some ⟨9,211,none⟩), .pointer (some ⟨w.heap.size,0,none⟩), .int .u64 150] 236)).alloc (.cells #[.pointer (some ⟨9,211,none⟩), .pointer (some ⟨w.heap.size,0,none⟩), .int .u64 150] 236)).alloc (.cells #[.int .i64 c, .string s] 205)).setRow bt #[.int .i64 c, .string s]:=by
 have h6:= @run_callFunc_extern Tryz.prog 172 _ (fun args=>ReflectliteValue.unpack (args.getD 0 (.tuple #[]))) Tryz.func172 (by kernel_rfl) (by kernel_rfl) (by kernel_rfl) (by kernel_rfl)
 have h7:= @run_callFunc_extern Tryz.prog 173 _ (ReflectliteValue.methodAny (ReflectliteValue.valueError "reflectlite.Value.Type" 0) (fun t _ _ _=>ReflectliteType.toType t)) Tryz.func173 (by kernel_rfl) (by kernel_rfl) (by kernel_rfl) (by kernel_rfl)
 have h8:= @run_callFunc_extern Tryz.prog 174 _ (ReflectliteValue.method (ReflectliteValue.valueError "reflectlite.Value.IsNil" 0) ReflectliteValue.isNil) Tryz.func174 (by kernel_rfl) (by kernel_rfl) (by kernel_rfl) (by kernel_rfl)
 have h27:= @run_callFunc_extern Tryz.prog 283 _ (ReflectliteType.abiMethod fun t=>do pure (.int .u8 (←Rtype.kind t))) Tryz.func283 (by kernel_rfl) (by kernel_rfl) (by kernel_rfl) (by kernel_rfl)
 have h37:= @run_callFunc_extern Tryz.prog 298 _ (ReflectliteType.method ReflectliteType.elem) Tryz.func298 (by kernel_rfl) (by kernel_rfl) (by kernel_rfl) (by kernel_rfl)
 have h38:= @run_callFunc_extern Tryz.prog 299 _ (ReflectliteType.relation "Implements" ReflectliteType.implements_) Tryz.func299 (by kernel_rfl) (by kernel_rfl) (by kernel_rfl) (by kernel_rfl)
 have h10:= @run_callFunc_extern Tryz.prog 213 _ ReflectliteType.typeOf Tryz.func213 (by kernel_rfl) (by kernel_rfl) (by kernel_rfl) (by kernel_rfl)
 have h35:= @run_callFunc_extern Tryz.prog 296 _ (ReflectliteType.relation "AssignableTo" ReflectliteType.assignableTo) Tryz.func296 (by kernel_rfl) (by kernel_rfl) (by kernel_rfl) (by kernel_rfl)
 have h11:= @run_callFunc_extern Tryz.prog 215 _ (ReflectliteValue.method (ReflectliteValue.valueError "reflectlite.Value.Elem" 0) ReflectliteValue.elem) Tryz.func215 (by kernel_rfl) (by kernel_rfl) (by kernel_rfl) (by kernel_rfl)
 have h12:= @run_callFunc_extern Tryz.prog 216 _ ReflectliteValue.set Tryz.func216 (by kernel_rfl) (by kernel_rfl) (by kernel_rfl) (by kernel_rfl)
 have tO:=AsT.typeOf25
 have mA:=AsT.methodAssignableTo
 have a25:=AsT.assignable25
 have v25:=AsT.valueOf25
 have f6:=AsT.valueOf27
 have f7:=AsT.type27
 have mK:=AsT.methodKind
 have mE:=AsT.methodElem
 have mI:=AsT.methodImplements
 have k27:=AsT.kind27
 have k25:=AsT.kind25
 have e27:=AsT.elem27
 have i25:=AsT.implements25
 have n8:=AsT.isNil27 ⟨w.heap.size,0,none⟩ ⟨bt,0,none⟩ ((w.alloc (.cells #[.pointer (some ⟨bt,0,none⟩)] 211)).alloc (.cells #[.pointer (some ⟨9,211,none⟩), .pointer (some ⟨w.heap.size,0,none⟩), .int .u64 150] 236)) (by simp)
 have hlt:2<w.heap.size:=World.block_lt_of_cell? w _ hg
 have hg2:((w.alloc (.cells #[.pointer (some ⟨bt,0,none⟩)] 211)).alloc (.cells #[.pointer (some ⟨9,211,none⟩), .pointer (some ⟨w.heap.size,0,none⟩), .int .u64 150] 236)).cell? ⟨2,0,none⟩=some (.iface 287 (.agg #[.pointer (some ⟨9,209,none⟩)])):=by
  rw[World.cell?_alloc_lt _ _ ⟨2,0,none⟩ (Nat.lt_of_lt_of_le hlt (by simp)),World.cell?_alloc_lt _ _ ⟨2,0,none⟩ hlt];exact hg
 have htl:bt<w.heap.size:=(Array.getElem?_eq_some_iff.1 ht0).1
 have el:=AsT.elemV27 ⟨w.heap.size,0,none⟩ ⟨bt,0,none⟩ (((w.alloc (.cells #[.pointer (some ⟨bt,0,none⟩)] 211)).alloc (.cells #[.pointer (some ⟨9,211,none⟩), .pointer (some ⟨w.heap.size,0,none⟩), .int .u64 150] 236)).alloc (.cells #[.pointer (some ⟨9,211,none⟩), .pointer (some ⟨w.heap.size,0,none⟩), .int .u64 150] 236)) (by rw[World.cell?_alloc_lt _ _ ⟨w.heap.size,0,none⟩ (by simp;omega)];simp)
 have hsz: ∀ (W:World) (o:Obj),(W.alloc o).heap.size=W.heap.size+1:=fun W o=>by show(W.heap.push o).size=_;simp
 have hold: ∀ (W:World) (o:Obj),bt<W.heap.size→W.heap[bt]? =some (.cells old elT (0,0))→(W.alloc o).heap[bt]? =some (.cells old elT (0,0)):=fun W o hl h=>by
  rw[(MapKept.heap_alloc W o).2 _ hl];exact h
 have st:=AsT.set25 bt ⟨w.heap.size+1+1+1,0,none⟩ c s old elT ((((w.alloc (.cells #[.pointer (some ⟨bt,0,none⟩)] 211)).alloc (.cells #[.pointer (some ⟨9,211,none⟩), .pointer (some ⟨w.heap.size,0,none⟩), .int .u64 150] 236)).alloc (.cells #[.pointer (some ⟨9,211,none⟩), .pointer (some ⟨w.heap.size,0,none⟩), .int .u64 150] 236)).alloc (.cells #[.int .i64 c, .string s] 205))
  (by rw[World.cell?_alloc_at _ _ _ _ (by simp)];rfl)
  (by rw[show(⟨w.heap.size+1+1+1,0,none⟩:Addr).add 1=⟨w.heap.size+1+1+1,1,none⟩by simp[Addr.add],World.cell?_alloc_at _ _ _ _ (by simp)];rfl)
  (hold _ _ (by rw[hsz,hsz,hsz];omega) (hold _ _ (by rw[hsz,hsz];omega) (hold _ _ (by rw[hsz];omega) (hold _ _ htl ht0)))) ho
 go_enter Tryz.func138,Tryz.ntmps138
 go_wp2
 refine wp_loop_rounds 1 ?_
 rw[rounds_succ]
 go_wp2
 go_ret
 exact⟨rfl,rfl⟩
section
variable [Env]
theorem asT (c:Int) (s:ByteArray):AsHit Tryz.prog GL 138 205 211 [.int .i64 c, .string s]:=by
 intro w bt old el hG hb ho
 have hgE:=(hG 2 (.box false [.val (.iface 287 (.agg #[.pointer (some ⟨9,209,none⟩)]))]) (by unfold GL;simp)).2 (fun _=>⟨none,0,0⟩)
 refine(asT_hit c s bt old el w (hgE.1 0 _ rfl) hb ho).mono ?_
 rintro e w' ⟨rfl,rfl⟩
 generalize hw4:(((w.alloc (.cells #[.pointer (some ⟨bt,0,none⟩)] 211)).alloc (.cells #[.pointer (some ⟨9,211,none⟩), .pointer (some ⟨w.heap.size,0,none⟩), .int .u64 150] 236)).alloc (.cells #[.pointer (some ⟨9,211,none⟩), .pointer (some ⟨w.heap.size,0,none⟩), .int .u64 150] 236)).alloc (.cells #[.int .i64 c, .string s] 205)=w4
 have hb4:Go.RowKit.Below w.heap.size w w4:=by
  rw[←hw4]
  exact((((Go.RowKit.Below.refl _ w).alloc (Nat.le_refl _) _).alloc (by simp) _).alloc (by simp;omega) _).alloc (by simp;omega) _
 have hg4:=kept hb hb4
 refine⟨rfl,w4,hb4,rfl,rfl,rfl,by simp[World.setRow],fun k hk=> ?_, ?_⟩
 ·simp[World.setRow,Array.getElem?_modify,Ne.symm hk]
 ·simp[World.setRow,Array.getElem?_modify,hg4]
end
end Go.Proofs.YtelidogcomffkaaGreatDoor
