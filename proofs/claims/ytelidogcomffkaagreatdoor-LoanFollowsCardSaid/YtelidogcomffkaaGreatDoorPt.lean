import Derived.Test.YtelidogcomffkaaGreatDoorSum
import Derived.Test.YtelidogcomffkaaGreatDoorProg
import Derived.WalkKit
import Derived.LaidEql
import Derived.Stop.Asserts
import Derived.RowKitTokens
import Derived.KernelRfl
import Derived.Laws.Externs
set_option linter.unusedVariables false
set_option linter.unusedSimpArgs false
namespace Go.Proofs.YtelidogcomffkaaGreatDoor
open Go Go.RowKit Go.Extern.Stop Go.Stop Go.Extern
theorem as_nil (t:Value) (w:World):
  Calls Tryz.prog 138 #[.nilIface,t] w fun e w'=>e= .returned (.bool false)∧w'=w:=by
 go_enter Tryz.func138,Tryz.ntmps138
 go_wp2
 go_ret
 exact⟨rfl,rfl⟩
theorem As.valueOf27 (t:Addr) (w:World):(ReflectliteValue.unpack (.iface 268 (.pointer (some t)))).run Tryz.prog w
  = .ok (.agg #[.pointer (some ⟨9,268,none⟩), .pointer (some ⟨w.heap.size,0,none⟩), .int .u64 150]) (w.alloc (.cells #[.pointer (some t)] 268)):=by kernel_rfl
theorem As.type27 (a:Addr) (w:World):(ReflectliteValue.methodAny (ReflectliteValue.valueError "reflectlite.Value.Type" 0) (fun t _ _ _=>ReflectliteType.toType t) #[.agg #[.pointer (some ⟨9,268,none⟩), .pointer (some a), .int .u64 150]]).run Tryz.prog w
  = .ok (.iface 287 (.agg #[.pointer (some ⟨9,268,none⟩)])) w:=by kernel_rfl
theorem As.methodKind (h:Value) (w:World):(Go.method 474 287 (.agg #[h]) "Kind").run Tryz.prog w= .ok (283,h) w:=by kernel_rfl
theorem As.kind27 (w:World):((ReflectliteType.abiMethod fun t=>(fun a:Nat=>Value.int IntKind.u8 (a:Int)) <$> Rtype.kind t) #[.pointer (some ⟨9,268,none⟩)]).run Tryz.prog w= .ok (.int .u8 22) w:=by kernel_rfl
theorem As.kind25 (w:World):((ReflectliteType.abiMethod fun t=>(fun a:Nat=>Value.int IntKind.u8 (a:Int)) <$> Rtype.kind t) #[.pointer (some ⟨9,267,none⟩)]).run Tryz.prog w= .ok (.int .u8 25) w:=by kernel_rfl
theorem rlm (z:Sem Value) (f:TypeId→Addr→Nat→Nat→Sem Value) (v:Value):
  ReflectliteValue.method z f #[v]=(do match←ReflectliteValue.parts v with|none=>z|some (t,a,fl)=>f t a fl (fl%32)):=rfl
theorem As.parts27 (a:Addr) (w:World):(ReflectliteValue.parts (.agg #[.pointer (some ⟨9,268,none⟩), .pointer (some a), .int .u64 150])).run Tryz.prog w= .ok (some (268,a,150)) w:=by kernel_rfl
theorem As.isNil27 (a p:Addr) (W:World) (ha:W.cell? a=some (.pointer (some p))):
  (ReflectliteValue.method (ReflectliteValue.valueError "reflectlite.Value.IsNil" 0) ReflectliteValue.isNil #[.agg #[.pointer (some ⟨9,268,none⟩), .pointer (some a), .int .u64 150]]).run Tryz.prog W= .ok (.bool false) W:=by
 rw[rlm]
 simp only[Sem.run_bind,As.parts27,Result.andThen]
 simp[ReflectliteValue.isNil,loadVar,isAgg,underlying,Tryz.underlying268,ha,Result.andThen]
theorem As.methodElem (h:Value) (w:World):(Go.method 474 287 (.agg #[h]) "Elem").run Tryz.prog w= .ok (298, .agg #[h]) w:=by kernel_rfl
theorem As.methodImplements (h:Value) (w:World):(Go.method 474 287 (.agg #[h]) "Implements").run Tryz.prog w= .ok (299, .agg #[h]) w:=by kernel_rfl
theorem As.methodAssignableTo (h:Value) (w:World):(Go.method 474 287 (.agg #[h]) "AssignableTo").run Tryz.prog w= .ok (296, .agg #[h]) w:=by kernel_rfl
theorem As.elem27 (w:World):(ReflectliteType.method ReflectliteType.elem #[.agg #[.pointer (some ⟨9,268,none⟩)]]).run Tryz.prog w= .ok (.iface 287 (.agg #[.pointer (some ⟨9,267,none⟩)])) w:=by kernel_rfl
theorem As.implements25 (w:World):(ReflectliteType.relation "Implements" ReflectliteType.implements_ #[.agg #[.pointer (some ⟨9,267,none⟩)], .iface 287 (.agg #[.pointer (some ⟨9,209,none⟩)])]).run Tryz.prog w= .ok (.bool true) w:=by kernel_rfl
theorem As.typeOf25 (v:Value) (w:World):(ReflectliteType.typeOf #[.iface 267 v]).run Tryz.prog w= .ok (.iface 287 (.agg #[.pointer (some ⟨9,267,none⟩)])) w:=by kernel_rfl
theorem As.assignable25 (w:World):(ReflectliteType.relation "AssignableTo" ReflectliteType.assignableTo #[.agg #[.pointer (some ⟨9,267,none⟩)], .iface 287 (.agg #[.pointer (some ⟨9,267,none⟩)])]).run Tryz.prog w= .ok (.bool true) w:=by kernel_rfl
theorem As.valueOf25 (c:Int) (w:World):(ReflectliteValue.unpack (.iface 267 (.agg #[.int .i64 c]))).run Tryz.prog w
  = .ok (.agg #[.pointer (some ⟨9,267,none⟩), .pointer (some ⟨w.heap.size,0,none⟩), .int .u64 153]) (w.alloc (.cells #[.int .i64 c] 267)):=by kernel_rfl
theorem As.elemOf27 (w:World):(Rtype.elem? 268).run Tryz.prog w= .ok (some 267) w:=by kernel_rfl
theorem As.mk25 (p:Addr) (w:World):(ReflectliteValue.mk 267 p ReflectliteValue.flagAddr).run Tryz.prog w= .ok (.agg #[.pointer (some ⟨9,267,none⟩), .pointer (some p), .int .u64 409]) w:=by kernel_rfl
theorem As.elemV27 (a p:Addr) (W:World) (ha:W.cell? a=some (.pointer (some p))):
  (ReflectliteValue.method (ReflectliteValue.valueError "reflectlite.Value.Elem" 0) ReflectliteValue.elem #[.agg #[.pointer (some ⟨9,268,none⟩), .pointer (some a), .int .u64 150]]).run Tryz.prog W
   = .ok (.agg #[.pointer (some ⟨9,267,none⟩), .pointer (some p), .int .u64 409]) W:=by
 rw[rlm]
 simp only[Sem.run_bind,As.parts27,Result.andThen]
 simp[ReflectliteValue.elem,loadVar,isAgg,underlying,Tryz.underlying268,ha,Result.andThen,As.elemOf27,As.mk25]
theorem rls (v x:Value):ReflectliteValue.set #[v,x]=(do
  let(some (dst,a,fl),some (src,b,_)):=(←ReflectliteValue.parts v,←ReflectliteValue.parts x)
   |unsupported (.noEntry "extern/(internal/reflectlite.Value).Set.zeroValue")
  if fl/ReflectliteValue.flagAddr%2==0 then unsupported (.noEntry "extern/(internal/reflectlite.Value).Set.unaddressable")
  let val←loadVar src b
  if←Rtype.directlyAssignable dst src then storeVar dst a val
  else if←Rtype.implements dst src then
   if(←Rtype.kind src)==20 then
    match val with
    | .nilIface=>unsupported (.noEntry "extern/reflectlite: a nil value of one interface type handed on as a value of another")
    |_=>storeVar dst a val
   else storeVar dst a (.iface src val)
  else panicString ("reflectlite.Set: value of type " ++(←Rtype.spelt src)++ " is not assignable to type " ++(←Rtype.spelt dst))
  pure (.tuple #[])):=rfl
theorem As.parts25a (a:Addr) (w:World):(ReflectliteValue.parts (.agg #[.pointer (some ⟨9,267,none⟩), .pointer (some a), .int .u64 409])).run Tryz.prog w= .ok (some (267,a,409)) w:=by kernel_rfl
theorem As.parts25 (a:Addr) (w:World):(ReflectliteValue.parts (.agg #[.pointer (some ⟨9,267,none⟩), .pointer (some a), .int .u64 153])).run Tryz.prog w= .ok (some (267,a,153)) w:=by kernel_rfl
theorem As.direct25 (w:World):(Rtype.directlyAssignable 267 267).run Tryz.prog w= .ok true w:=by kernel_rfl
theorem As.size25 (w:World):(sizeOf 267).run Tryz.prog w= .ok 1 w:=by kernel_rfl
theorem As.set25 (ta b:Addr) (c:Int) (old:Value) (W:World) (hb:W.cell? b=some (.int .i64 c)) (ht:W.cell? ta=some old) (hf:W.frozen? ta=false):
  (ReflectliteValue.set #[.agg #[.pointer (some ⟨9,267,none⟩), .pointer (some ta), .int .u64 409], .agg #[.pointer (some ⟨9,267,none⟩), .pointer (some b), .int .u64 153]]).run Tryz.prog W
   = .ok (.tuple #[]) (W.setCell ta (.int .i64 c)):=by
 have hl1:(loadCells b 1).run Tryz.prog W= .ok #[.int .i64 c] W:=by
  have:=run_loadCells (P:=Tryz.prog) W b 1 (fun _=>Value.int .i64 c) (fun j hj=>by
   have:j=0:=by omega
   subst this
   simpa[Addr.add]using hb)
  simpa using this
 have hload:(loadVar 267 b).run Tryz.prog W= .ok (.agg #[.int .i64 c]) W:=by
  simp[loadVar,isAgg,underlying,Tryz.underlying267,Result.andThen,Sem.run_bind,As.size25,hl1]
 have hstore:(storeVar 267 ta (.agg #[.int .i64 c])).run Tryz.prog W= .ok () (W.setCell ta (.int .i64 c)):=by
  simp[storeVar,Value.cells,storeCells,Addr.add,Sem.run_bind,As.size25,Result.andThen]
  rw[run_store Tryz.prog W ta _ _ (by rfl)]
  simp[ht,hf]
 rw[rls]
 simp only[Sem.run_bind,As.parts25a,As.parts25,Result.andThen]
 simp[ReflectliteValue.flagAddr,Sem.run_bind,hload,hstore,Result.andThen,As.direct25]
set_option maxHeartbeats 4000000 in
theorem as_hit (c:Int) (t:Addr) (old:Value) (w:World) (hg:w.cell? ⟨2,0,none⟩=some (.iface 287 (.agg #[.pointer (some ⟨9,209,none⟩)]))) (ht0:w.cell? t=some old) (hf0:w.frozen? t=false):
  Calls Tryz.prog 138 #[.iface 267 (.agg #[.int .i64 c]), .iface 268 (.pointer (some t))] w fun ev w'=>ev= .returned (.bool true)∧w'=((((w.alloc (.cells #[.pointer (some t)] 268)).alloc (.cells #[.pointer (some ⟨9,268,none⟩), .pointer (some ⟨w.heap.size,0,none⟩), .int .u64 150] 236)).alloc (.cells #[.pointer (some ⟨9,268,none⟩), .pointer (some ⟨w.heap.size,0,none⟩), .int .u64 150] 236)).alloc (.cells #[.int .i64 c] 267)).setCell t (.int .i64 c):=by
 have h6:= @run_callFunc_extern Tryz.prog 172 _ (fun args=>ReflectliteValue.unpack (args.getD 0 (.tuple #[]))) Tryz.func172 (by kernel_rfl) (by kernel_rfl) (by kernel_rfl) (by kernel_rfl)
 have h7:= @run_callFunc_extern Tryz.prog 173 _ (ReflectliteValue.methodAny (ReflectliteValue.valueError "reflectlite.Value.Type" 0) (fun t _ _ _=>ReflectliteType.toType t)) Tryz.func173 (by kernel_rfl) (by kernel_rfl) (by kernel_rfl) (by kernel_rfl)
 have h8:= @run_callFunc_extern Tryz.prog 174 _ (ReflectliteValue.method (ReflectliteValue.valueError "reflectlite.Value.IsNil" 0) ReflectliteValue.isNil) Tryz.func174 (by kernel_rfl) (by kernel_rfl) (by kernel_rfl) (by kernel_rfl)
 have h27:= @run_callFunc_extern Tryz.prog 283 _ (ReflectliteType.abiMethod fun t=>do pure (.int .u8 (←Rtype.kind t))) Tryz.func283 (by kernel_rfl) (by kernel_rfl) (by kernel_rfl) (by kernel_rfl)
 have h37:= @run_callFunc_extern Tryz.prog 298 _ (ReflectliteType.method ReflectliteType.elem) Tryz.func298 (by kernel_rfl) (by kernel_rfl) (by kernel_rfl) (by kernel_rfl)
 have h38:= @run_callFunc_extern Tryz.prog 299 _ (ReflectliteType.relation "Implements" ReflectliteType.implements_) Tryz.func299 (by kernel_rfl) (by kernel_rfl) (by kernel_rfl) (by kernel_rfl)
 have h10:= @run_callFunc_extern Tryz.prog 213 _ ReflectliteType.typeOf Tryz.func213 (by kernel_rfl) (by kernel_rfl) (by kernel_rfl) (by kernel_rfl)
 have h35:= @run_callFunc_extern Tryz.prog 296 _ (ReflectliteType.relation "AssignableTo" ReflectliteType.assignableTo) Tryz.func296 (by kernel_rfl) (by kernel_rfl) (by kernel_rfl) (by kernel_rfl)
 have h11:= @run_callFunc_extern Tryz.prog 215 _ (ReflectliteValue.method (ReflectliteValue.valueError "reflectlite.Value.Elem" 0) ReflectliteValue.elem) Tryz.func215 (by kernel_rfl) (by kernel_rfl) (by kernel_rfl) (by kernel_rfl)
 have h12:= @run_callFunc_extern Tryz.prog 216 _ ReflectliteValue.set Tryz.func216 (by kernel_rfl) (by kernel_rfl) (by kernel_rfl) (by kernel_rfl)
 have tO:=As.typeOf25
 have mA:=As.methodAssignableTo
 have a25:=As.assignable25
 have v25:=As.valueOf25
 have f6:=As.valueOf27
 have f7:=As.type27
 have mK:=As.methodKind
 have mE:=As.methodElem
 have mI:=As.methodImplements
 have k27:=As.kind27
 have k25:=As.kind25
 have e27:=As.elem27
 have i25:=As.implements25
 have n8:=As.isNil27 ⟨w.heap.size,0,none⟩ t ((w.alloc (.cells #[.pointer (some t)] 268)).alloc (.cells #[.pointer (some ⟨9,268,none⟩), .pointer (some ⟨w.heap.size,0,none⟩), .int .u64 150] 236)) (by simp)
 have hlt:2<w.heap.size:=World.block_lt_of_cell? w _ hg
 have hg2:((w.alloc (.cells #[.pointer (some t)] 268)).alloc (.cells #[.pointer (some ⟨9,268,none⟩), .pointer (some ⟨w.heap.size,0,none⟩), .int .u64 150] 236)).cell? ⟨2,0,none⟩=some (.iface 287 (.agg #[.pointer (some ⟨9,209,none⟩)])):=by
  rw[World.cell?_alloc_lt _ _ ⟨2,0,none⟩ (Nat.lt_of_lt_of_le hlt (by simp)),World.cell?_alloc_lt _ _ ⟨2,0,none⟩ hlt];exact hg
 have htl:t.block<w.heap.size:=by
  rcases Nat.lt_or_ge t.block w.heap.size with h|h
  ·exact h
  ·simp[World.cell?,Array.getElem?_eq_none h]at ht0
 have el:=As.elemV27 ⟨w.heap.size,0,none⟩ t (((w.alloc (.cells #[.pointer (some t)] 268)).alloc (.cells #[.pointer (some ⟨9,268,none⟩), .pointer (some ⟨w.heap.size,0,none⟩), .int .u64 150] 236)).alloc (.cells #[.pointer (some ⟨9,268,none⟩), .pointer (some ⟨w.heap.size,0,none⟩), .int .u64 150] 236)) (by rw[World.cell?_alloc_lt _ _ ⟨w.heap.size,0,none⟩ (by simp;omega)];simp)
 have st:=As.set25 t ⟨w.heap.size+1+1+1,0,none⟩ c old ((((w.alloc (.cells #[.pointer (some t)] 268)).alloc (.cells #[.pointer (some ⟨9,268,none⟩), .pointer (some ⟨w.heap.size,0,none⟩), .int .u64 150] 236)).alloc (.cells #[.pointer (some ⟨9,268,none⟩), .pointer (some ⟨w.heap.size,0,none⟩), .int .u64 150] 236)).alloc (.cells #[.int .i64 c] 267))
  (by rw[World.cell?_alloc_at _ _ _ _ (by simp)];rfl)
  (by rw[World.cell?_alloc_lt _ _ t (by simp;omega),World.cell?_alloc_lt _ _ t (by simp;omega),World.cell?_alloc_lt _ _ t (by simp;omega),World.cell?_alloc_lt _ _ t htl];exact ht0)
  (by rw[World.frozen?_alloc_old _ _ t (by simp;omega),World.frozen?_alloc_old _ _ t (by simp;omega),World.frozen?_alloc_old _ _ t (by simp;omega),World.frozen?_alloc_old _ _ t (Nat.ne_of_lt htl)];exact hf0)
 go_enter Tryz.func138,Tryz.ntmps138
 go_wp2
 refine wp_loop_rounds 1 ?_
 rw[rounds_succ]
 go_wp2
 go_ret
 exact⟨rfl,rfl⟩
end Go.Proofs.YtelidogcomffkaaGreatDoor
set_option linter.unusedVariables false
set_option linter.unusedSimpArgs false
set_option linter.unusedSectionVars false
set_option maxRecDepth 100000
namespace Go.Proofs.YtelidogcomffkaaGreatDoor
open Go Go.Sx
variable [Env]
theorem as_nil_S {n:Int}:SCall Tryz.prog GL 138 [.val .nilIface, .ifc 268 (.ptr 0 0)] [some (.box false [I n])] (B false) []:=by
 intro θ w hh hg cs
 obtain⟨e,w',fr',⟨rfl,rfl⟩,hc,h3,h4⟩:=as_nil (den θ (.ifc 268 (.ptr 0 0))) w cs
 refine⟨_,_,fr',⟨Go.RowKit.Below.refl _ _,_,rfl,fun _=>⟨none,0,0⟩,fun θ' hs _=>⟨rfl,hh.sc hs ⟨rfl,trivial⟩⟩⟩,hc,h3,h4⟩
theorem icma_Part_0 {a1 a2:Int} {n3:Nat} {g4:Nat→Int} {a5 r6 r7:Int} (h0:S 196 [I a1,I a2, .sl 0 n3,I a5] [ri n3 g4] (.tup [.agg [I r6,I r7], .val .nilIface]) []):
  S 151 [I a1,I a2, .sl 0 n3,I a5] [ri n3 g4] (.tup [.agg [I r6,I r7],I 0]) []:=
 SCall.path 38 [.call [0] (.tup [.agg [I r6,I r7], .val .nilIface]) [], .call [3] (B false) [],fb] [] 4 (by kernel_rfl) rfl (by exact⟨fun _=>rfl,trivial⟩) (ca h0 (ca (show S 138 [.val .nilIface, .ifc 268 (.ptr 0 0)] [some (.box false [I 0])] (B false) []from as_nil_S) (ca rf na)))
noncomputable def icma_Part_h0 (n3:Nat) (g4:Nat→Int) (x1:Int) (x2:Int) (x3:Int):SC:=
 ⟨[⟨151,[none,none,none,none,none,none,none,none,some (.ptr 1 0),none,some (.ptr 2 0),none,some (.ptr 3 0),none,none,none,none,none,none,none,none,some (.ifc 267 (.agg [I x1])),some (.ifc 268 (.ptr 3 0)),none,none,none,none,none],[.inRegion (opsAt Tryz.f151 [1,1,1,0,0]) [2], .code (bodyAt Tryz.f151 [1,1,1,0,1]), .code (bodyAt Tryz.f151 [1,1,1,1])],{}⟩],[ri n3 g4,some (.box true [I x2,I x3]),some (.box true [I 0,I 0]),some (.box true [I 0])]⟩
theorem icma_Part_1 {X:Cx} {res:SV} {new:List (Option Vw)} {a1 a2:Int} {n3:Nat} {g4:Nat→Int} {a5 r6:Int} (hX:Fi X 151 [ri n3 g4] res new) (h0:S 196 [I a1,I a2, .sl 0 n3,I a5] [ri n3 g4] (.tup [.agg [I 0,I 0], .ifc 267 (.agg [I r6])]) []) (k:Ok X (icma_Part_h0 n3 g4 r6 0 0)):
  Ok X (entry Tryz.prog 151 [I a1,I a2, .sl 0 n3,I a5] [ri n3 g4]):=
 Ok.cutM 28 [.call [0] (.tup [.agg [I 0,I 0], .ifc 267 (.agg [I r6])]) []] [msk 28 [8,10,12,21,22]] [.old 0, .old 1, .old 2, .old 3] 1 hX.P hX.gl hX.n0 (by kernel_rfl) (by kernel_rfl) (by exact⟨fun _=>rfl,rfl,rfl,rfl,trivial⟩) (ca h0 na) k
noncomputable def icma_Part_b (n3:Nat) (g4:Nat→Int) (x1:Int) (x2:Int) (x3:Int):SC:=
 ⟨[⟨151,[none,none,none,none,none,none,none,none,some (.ptr 1 0),none,some (.ptr 2 0),none,some (.ptr 3 0),none,none,none,none,none,none,none,none,some (.ifc 267 (.agg [I x1])),some (.ifc 268 (.ptr 3 0)),some (B true),none,none,none,none],[.inRegion (opsAt Tryz.f151 [1,1,1,0,0]) [], .code (bodyAt Tryz.f151 [1,1,1,0,1]), .code (bodyAt Tryz.f151 [1,1,1,1])],{}⟩],[ri n3 g4,some (.box true [I x2,I x3]),some (.box true [I 0,I 0]),some (.box true [I x1])]⟩
theorem icma_Part_2 {X:Cx} {n3:Nat} {g4:Nat→Int} {x1 x2 x3:Int} (hX:Fi X 151 [ri n3 g4] (.tup [.agg [I 0,I 0],I x1]) []):
  Ok X (icma_Part_b n3 g4 x1 x2 x3):=
 Ok.fin 6 [tb, .draw 3 [1,2] 1] [] 4 hX (by kernel_rfl) rfl (ca rt (ca (show(.ptr 3 0:SV)= .ptr 3 0 from rfl) (ca (re (I x1)) (ca (show(.ptr 3 0:SV)= .ptr 3 0 from rfl) (ca (re (I x1)) na)))))
theorem setCell_box {w:World} {b:Nat} {u v:Value} {t:TypeId} (h:w.heap[b]? =some (.cells #[u] t (0,0))):(w.setCell ⟨b,0,none⟩ v).heap[b]? =some (.cells #[v] t (0,0)):=by
 have hlt:=(Array.getElem?_eq_some_iff.1 h).1
 simp[World.setCell,Array.getElem?_modify,h]
theorem ipart_err {n:Nat} {g:Nat→Int} {a b f c:Int} (hsum:SCall Tryz.prog GL 196 [I a,I b, .sl 0 n,I f] [some (.row false 3 n 1 (fun i=>[I (g i)]))] (.tup [.agg [I 0,I 0], .ifc 267 (.agg [I c])]) []):
  SCall Tryz.prog GL 151 [I a,I b, .sl 0 n,I f] [some (.row false 3 n 1 (fun i=>[I (g i)]))] (.tup [.agg [I 0,I 0],I c]) []:=by
 refine SCall.of (by kernel_rfl) rfl ⟨fun i=>rfl,trivial⟩ rfl (fun X hX=> ?_)
 refine icma_Part_1 hX hsum ?_
 intro θ fr ms w hh
 unfold icma_Part_h0 at hh
 obtain⟨T,rfl,hpre,hrest⟩:=hh.pre
 have hms:ms=[]:=by cases hrest θ (Same.refl _ _);rfl
 subst hms
 have h2:((opsAt Tryz.f151 [1,1,1,0,0])[2]?).map (fun o=>(o.op,o.guard,o.dst))=some (.call ⟨.value (.func 138), #[.tmp 21, .tmp 22], #[209,20]⟩,none,some 23):=by kernel_rfl
 rw[Option.map_eq_some_iff]at h2
 obtain⟨o,ho,ho'⟩:=h2
 simp only[Prod.mk.injEq]at ho'
 obtain⟨hop,hgd,hdst⟩:=ho'
 have hpre':=hpre
 rw[hX.P,hX.gl]at hpre'
 obtain⟨vs,hrun,hvs⟩:=sxOp_after (ds:=[]) (o:=o) (hs:=[]) (ps:=[]) (hs':=[]) (e:= .enter 138 [.ifc 267 (.agg [I c]), .ifc 268 (.ptr 3 0)]) hpre' (by rw[hop];kernel_rfl) trivial
 obtain⟨hh0,hT0⟩:=hpre'.inv θ (Same.refl _ _)
 obtain⟨hA3,hB3⟩:=hh0.vw 3 _ rfl
 obtain⟨bt,hbt,hbb,c3,el3,hg3,hs3⟩:=hB3 rfl
 obtain⟨a3,ha3,hl3⟩:=hA3 (by simp)
 rw[hbt]at ha3;cases ha3
 have hc3:c3.toList=denL θ [I 0]:=whole_cells hg3 hs3 hl3
 have hc3':c3= #[.int .i64 0]:=by
  have:c3=c3.toList.toArray:=by simp
  rw[this,hc3];rfl
 subst hc3'
 have hgE:=(hpre'.gok 2 (.box false [.val (.iface 287 (.agg #[.pointer (some ⟨9,209,none⟩)]))]) (by unfold GL;simp)).2 θ
 have hE:w.cell? ⟨2,0,none⟩=some (.iface 287 (.agg #[.pointer (some ⟨9,209,none⟩)])):=hgE.1 0 _ rfl
 have hcell:w.cell? ⟨bt,0,none⟩=some (.int .i64 0):=by simp[World.cell?,hg3]
 have hfroz:w.frozen? ⟨bt,0,none⟩=false:=by simp[World.frozen?,hg3]
 have hvs0:=hvs θ (Same.refl _ _)
 have hvs1:vs.toArray= #[.iface 267 (.agg #[.int .i64 c]), .iface 268 (.pointer (some ⟨bt,0,none⟩))]:=by
  rw[hvs0]
  simp only[denL,den,hbt,Option.map_some,at_,Nat.add_zero]
 rw[hvs1]at hrun
 obtain⟨e,w',fr',⟨rfl,hw'⟩,hcomes, -,hleave⟩:=as_hit c ⟨bt,0,none⟩ (.int .i64 0) w hE hcell hfroz (mkFr {} 151 T [.inRegion (opsAt Tryz.f151 [1,1,1,0,0]) [2], .code (bodyAt Tryz.f151 [1,1,1,0,1]), .code (bodyAt Tryz.f151 [1,1,1,1])]::X.cs)
 have hst:=stepM_enter (P:=Tryz.prog) (rx:={}) (fn:=151) (T:=T) (k:=[.code (bodyAt Tryz.f151 [1,1,1,0,1]), .code (bodyAt Tryz.f151 [1,1,1,1])]) (cs:=X.cs) (rest:=[]) ho (wanted_none hgd) hrun
 have hlv:=step_leave_returned (c:=mkFr {} 151 T [.inRegion (opsAt Tryz.f151 [1,1,1,0,0]) [2], .code (bodyAt Tryz.f151 [1,1,1,0,1]), .code (bodyAt Tryz.f151 [1,1,1,1])]) (cs:=X.cs) hleave
 rw[fin_mk ho]at hlv
 generalize hw4:(((w.alloc (.cells #[.pointer (some ⟨bt,0,none⟩)] 268)).alloc (.cells #[.pointer (some ⟨9,268,none⟩), .pointer (some ⟨w.heap.size,0,none⟩), .int .u64 150] 236)).alloc (.cells #[.pointer (some ⟨9,268,none⟩), .pointer (some ⟨w.heap.size,0,none⟩), .int .u64 150] 236)).alloc (.cells #[.int .i64 c] 267)=w4 at hw'
 have hb4:Go.RowKit.Below w.heap.size w w4:=by
  rw[←hw4]
  exact((((Go.RowKit.Below.refl _ w).alloc (Nat.le_refl _) _).alloc (by simp) _).alloc (by simp;omega) _).alloc (by simp;omega) _
 have hg4:w4.heap[bt]? =some (.cells #[.int .i64 0] el3 (0,0)):=kept hg3 hb4
 have hnew:w'.heap[bt]? =some (.cells #[.int .i64 c] el3 (0,0)):=by rw[hw'];exact setCell_box hg4
 have hoth: ∀ k,k≠bt→w'.heap[k]? =w4.heap[k]? :=fun k hk=>by
  rw[hw']
  simp[World.setCell,Array.getElem?_modify,Ne.symm hk]
 have hbel:Go.RowKit.Below X.base w w':=by
  have hX1:=hb4.mono hpre.sz
  refine⟨?_, ?_, ?_, ?_,fun k hk=> ?_⟩
  ·rw[hw'];exact hX1.os
  ·rw[hw'];exact hX1.tape
  ·rw[hw'];exact hX1.output
  ·rw[hw'];simpa[World.setCell]using hX1.size
  ·rw[hoth k (by omega)];exact hX1.block k hk
 refine Done.steps (fr2:=mkFr {} 151 ((Act.mk T []).put o.dst (.bool true)).tmps (.inRegion (opsAt Tryz.f151 [1,1,1,0,0]) []::[.code (bodyAt Tryz.f151 [1,1,1,0,1]), .code (bodyAt Tryz.f151 [1,1,1,1])])) (frs2:=[]) (w2:=w') (by rw[hX.P];exact .head hst (Steps.trans hcomes (.one hlv))) ?_
 have hk:=icma_Part_2 (X:=X) (n3:=n) (g4:=g) (x1:=c) (x2:=0) (x3:=0) hX
 unfold icma_Part_b at hk
 refine hk θ _ [] w' ⟨fun θ' hs=>⟨?_, .cons ⟨_,rfl, ?_⟩ .nil⟩,hh.old,hh.len,hh.bel.trans hbel,Nat.le_trans hh.sz hbel.size,hh.gok.below hh.gb hbel,hh.gb⟩
 ·have h5:=(hpre'.inv θ' hs).1.below hb4
  have hbt':(θ' 3).base=some ⟨bt,0,none⟩:=by rw[hs 3 (by show 3<4;omega)];exact hbt
  exact h5.write (t:=3) (v':= .box true [I c]) rfl rfl rfl hbt' rfl hoth ⟨fun _=>⟨_,hbt',fun k v hk=>by
   cases k with
   |zero=>simp at hk;subst hk;simp[World.cell?,at_,hnew,den]
   |succ k=>simp at hk⟩,fun _=>⟨bt,hbt',hbb,_,el3,hnew,rfl⟩⟩
 ·have h6:=((hpre'.inv θ' hs).2).set (v:=B true) (r:= .bool true) (d:=o.dst) (ds:=[]) rfl
  refine h6.sub ?_
  rw[hdst]
  simp[setT,subT]
theorem ipart {n:Nat} {g:Nat→Int} {a b f:Int}:SCall Tryz.prog GL 151 [I a,I b, .sl 0 n,I f] [some (.row false 3 n 1 (fun i=>[I (g i)]))] (RT (partR a b n g f)) []:=by
 unfold partR
 cases hda:isDay a
 ·rw[if_pos (.inl rfl)]
  exact ipart_err (icma_sum_0 (iday a) hda)
 cases hdb:isDay b
 ·rw[if_pos (.inr rfl)]
  exact ipart_err (icma_sum_1 (iday a) hda (iday b) hdb)
 rw[if_neg (by simp)]
 by_cases hab:a>b
 ·rw[if_pos hab]
  exact ipart_err (icma_sum_2 (iday a) hda (iday b) hdb hab)
 rw[if_neg hab]
 cases hm:mayB n g f
 ·rw[if_pos (.inl rfl)]
  exact ipart_err (icma_sum_3 (iday a) hda (iday b) hdb hab imay hm)
 obtain⟨m1,m2,m3,m4,m5,m6,m7⟩:=may_facts hm
 have e:(((n:Nat):Int)-1).toNat=n-1:=by omega
 by_cases h0:a<g 0
 ·rw[if_pos (.inr (.inl h0))]
  exact ipart_err (icma_sum_4 (iday a) hda (iday b) hdb hab imay hm (by omega) h0)
 by_cases h1:b>g (n-1)
 ·rw[if_pos (.inr (.inr h1))]
  exact ipart_err (icma_sum_5 (iday a) hda (iday b) hdb hab imay hm (by omega) h0 (by simp only[InR];omega) (by omega) (by rw[e];exact h1))
 rw[if_neg (by simp;omega)]
 exact icma_Part_0 (isum hda hdb hab hm h0 h1)
end Go.Proofs.YtelidogcomffkaaGreatDoor
