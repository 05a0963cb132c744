/-
From a contract of SX to the rows of chapter 15: the laid variables, texts' tables among them, and a world for the witness.
-/
import Derived.Test.YtelidogcomffkaaGreatDoorIsf
import Derived.Test.YtelidogcomffkaaGreatDoorLift
import Derived.Stop.LaidErr
import Derived.ChangeArms
import Derived.Deep.SlicePairs
set_option linter.unusedSimpArgs false
set_option linter.unusedVariables false
set_option maxRecDepth 100000
namespace Go.Proofs.YtelidogcomffkaaGreatDoor
open Go Go.Sx Go.Deep Go.ChangeShapes Go.WideShapes Go.ChangeAt Go.RowKit
section
variable {H:Type} {enc:TypeId×Value→H} {P:Program} {w:World} {base:Nat} {spare:Nat→Bool} {held:Bool}
theorem trod_i64 {u:TypeId} {n:Nat} {v:Value} {y:DataW H×List MemPlace} (hu:P.underlying u=some (.int .i64)) (h:DataW.trod enc P w base spare held n u [v]=some y): ∃ z,v= .int .i64 z:=by
 cases n with
 |zero=>simp[DataW.trod]at h
 |succ n=>
  unfold DataW.trod at h
  rw[hu]at h
  cases v<;>simp only at h<;>first|(cases h;done)|skip
  split at h
  ·rename_i c;exact⟨_,by rw[c.1]⟩
  ·cases h
end
end Go.Proofs.YtelidogcomffkaaGreatDoor
namespace Go.Proofs.YtelidogcomffkaaGreatDoor
open Go Go.Sx Go.Deep Go.ChangeShapes Go.WideShapes Go.ChangeAt Go.RowKit
theorem cells_of_strs {H:Type} {enc:TypeId×Value→H} {P:Program} {w:World} {base:Nat} {sp:Nat→Bool} {held:Bool} {fuel:Nat} {t e:TypeId} {n:Nat} {cs:List Value} {ss:List (List UInt8)} {p:List MemPlace}
  (ht:P.underlying t=some (.array n e)) (he:P.underlying e=some .string) (hce:P.cellsOf e=1) (hct:P.cellsOf t=n)
  (h:DataW.trod enc P w base sp held fuel t cs=some (.agg (ss.map fun s=> .lit (.string s)),p)):cs=ss.map fun s=>Value.string ⟨s.toArray⟩:=by
 cases fuel with
 |zero=>simp[DataW.trod]at h
 |succ fuel=>
  simp only[DataW.trod,ht,hce,hct,Nat.mul_one]at h
  split at h
  ·rename_i hl
   obtain⟨xs,hm,hx⟩:=Option.map_eq_some_iff.1 h
   have hxs:xs.map (·.1)=ss.map fun s=>(DataW.lit (.string s):DataW H):=by
    have:=congrArg Prod.fst hx
    simpa using this
   have hxl:xs.length=n:=by simpa using Lib.mapM_length hm
   have hzl:ss.length=n:=by
    have:=congrArg List.length hxs
    simp at this
    omega
   apply List.ext_getElem?
   intro i
   by_cases hi:i<n
   ·obtain⟨b,hb,hf⟩:=Lib.mapM_at hm i i (by simp[hi])
    obtain⟨s,hc,rfl,_⟩:=DataW.trod_string he hf
    have h1:cs[i]? =some (.string s):=by
     have:=congrArg (·[0]?) hc
     simpa[List.getElem?_take,List.getElem?_drop]using this
    have h2:(xs.map (·.1))[i]? =some (DataW.lit (.string s.data.toList):DataW H):=by simp[hb]
    rw[hxs]at h2
    simp only[List.getElem?_map,Option.map_eq_some_iff,DataW.lit.injEq,Lit.string.injEq]at h2
    obtain⟨z',hz',rfl⟩:=h2
    simp[h1,hz']
   ·rw[List.getElem?_eq_none (by omega),List.getElem?_eq_none (by simp;omega)]
  ·cases h
theorem strs_of_head {P:Program} {W:World} {name:String} (ss:List (List UInt8)) {rest:List (String×DataW Unit)} {g:Nat} {t e:TypeId} {n:Nat}
  (hg:P.globalNamed name=some g) (hty:(P.globals[g]?).map (·.type)=some t) (ht:P.underlying t=some (.array n e)) (he:P.underlying e=some .string) (hce:P.cellsOf e=1) (hct:P.cellsOf t=n)
  (h:laidMet P ((name, .agg (ss.map fun s=> .lit (.string s)))::rest) W) (i:Nat) (s:List UInt8) (hi:ss[i]? =some s):W.cell? ⟨g,i,none⟩=some (.string ⟨s.toArray⟩):=by
 obtain⟨ps,⟨g',t',cs,fuel,p,q,hg',ht',hvar,hd,_,_⟩,_⟩:=h
 obtain rfl:=Option.some.inj (hg.symm.trans hg')
 obtain rfl:=Option.some.inj (hty.symm.trans ht')
 have hc:=cells_of_strs ht he hce hct hd
 have:=World.var?_cell hg hvar i
 rw[this,←Array.getElem?_toList,hc]
 simp[hi]
theorem gRoll:Tryz.prog.globalNamed "demurrage/roll.names" =some 4:=by kernel_rfl
theorem gRollT:(Tryz.prog.globals[4]?).map (·.type)=some 283:=by kernel_rfl
theorem gNms:Tryz.prog.globalNamed "demurrage/terms.names" =some 3:=by kernel_rfl
theorem gNmsT:(Tryz.prog.globals[3]?).map (·.type)=some 282:=by kernel_rfl
theorem gTerms:Tryz.prog.globalNamed "demurrage/terms.errTerms" =some 1:=by kernel_rfl
theorem gTermsT:(Tryz.prog.globals[1]?).map (·.type)=some 209:=by kernel_rfl
theorem c5Str:Tryz.prog.cellsOf 283=5:=by kernel_rfl
theorem c3Str:Tryz.prog.cellsOf 282=3:=by kernel_rfl
def laidT:List (String×DataW Unit):=[("demurrage/civil.lengths",Rows.laid_demurrage_civil_lengths),("errors.errorType",Rows.laid_errors_errorType),("demurrage/actual.errNone",Rows.laid_demurrage_actual_errNone),("demurrage/actual.errTurns",Rows.laid_demurrage_actual_errTurns),
 ("demurrage/roll.names",Rows.laid_demurrage_roll_names),("demurrage/terms.names",Rows.laid_demurrage_terms_names),("demurrage/terms.errTerms",Rows.laid_demurrage_terms_errTerms)]
theorem gokT {W:World} (h:laidMetH Tryz.prog laidT W): ∃ E:EnvT,GOk (@GL (@envT E)) W:=by
 have h':laidMet Tryz.prog [("demurrage/civil.lengths",Rows.laid_demurrage_civil_lengths),("demurrage/actual.errNone",Rows.laid_demurrage_actual_errNone),("demurrage/actual.errTurns",Rows.laid_demurrage_actual_errTurns),
  ("demurrage/roll.names",Rows.laid_demurrage_roll_names),("demurrage/terms.names",Rows.laid_demurrage_terms_names),("demurrage/terms.errTerms",Rows.laid_demurrage_terms_errTerms)] W∧handlesMet Tryz.prog [("errors.errorType",Rows.laid_errors_errorType)] W:=h
 have hT:Lib.TabIs Tryz.prog W "demurrage/civil.lengths" .i64 [0,31,28,31,30,31,30,31,31,30,31,30,31]:=
  Lib.tabIs_of_head gLen gLenType Tryz.underlying188 Tryz.underlying3 cInt cLen h'.1
 have hc: ∀ i,i<13→W.cell? ⟨0,i,none⟩=some (.int .i64 (lens i)):=fun i hi=>hT.cell gLen i hi
 have hE:W.cell? ⟨2,0,none⟩=some (.iface 287 (.agg #[.pointer (some ⟨9,209,none⟩)])):=by
  obtain⟨name,u,ty,e1,e2,e3,e4,e5⟩:=h'.2 _ (List.mem_singleton.2 rfl)
  have en:name=[101,114,114,111,114]:=(Option.some.inj e1).symm
  subst en
  obtain rfl:=Option.some.inj (rtNo.symm.trans e2)
  have hm:ty∈(List.range (474-100)).filter fun t=>Tryz.prog.rowNamed t [101,114,114,111,114]:=List.mem_filter.2 ⟨List.mem_range.2 (by rw[←nTypes];exact e3),e4⟩
  rw[oneRow]at hm
  obtain rfl:=List.mem_singleton.1 hm
  have hh:typeHandle Tryz.prog 209= .pointer (some ⟨9,209,none⟩):=by kernel_rfl
  rw[hh]at e5
  simpa using World.var?_cell gErr e5 0
 obtain⟨a0,a1,s0,s1,c0,c1,t0,t1,hv0,hv1, -, -, -, -, -, -,hne,hb0,hb1⟩:=laid_sentinels2 (laidMet.tail h'.1) gNone gNoneT gTurns gTurnsT Tryz.underlying209 errName Tryz.underlying343 Tryz.underlying363 rfl rfl Tryz.underlying9 cErrS cStr
 have h0:W.cell? ⟨5,0,none⟩=some (errS a0):=by simpa using World.var?_cell gNone hv0 0
 have h1:W.cell? ⟨6,0,none⟩=some (errS a1):=by simpa using World.var?_cell gTurns hv1 0
 have hlt: ∀ {b o:Nat} {v:Value},W.cell? ⟨b,o,none⟩=some v→b<W.heap.size:=fun h=>World.block_lt_of_cell? W _ h
 have one: ∀ {g:Nat} {v:Value},W.cell? ⟨g,0,none⟩=some v→ ∀ θ,Lies θ W ⟨g,0,none⟩ 0 [.val v]:=fun hc θ k u hk=>by
  cases k with
  |zero=>simp at hk;subst hk;simpa[at_,den]using hc
  |succ k=>simp at hk
 have m3:=laidMet.tail (laidMet.tail (laidMet.tail h'.1))
 have m4:=laidMet.tail m3
 have hr:=strs_of_head (t:=283) (e:=9) [[110,111,110,101],[102,111,108,108,111,119,105,110,103],[109,111,100,102,111,108,108,111,119,105,110,103],[112,114,101,99,101,100,105,110,103],[109,111,100,112,114,101,99,101,100,105,110,103]] gRoll gRollT Tryz.underlying283 Tryz.underlying9 cStr c5Str m3
 have ht:=strs_of_head (t:=282) (e:=9) [[98,117,108,108,101,116],[101,113,117,97,108],[108,101,118,101,108]] gNms gNmsT Tryz.underlying282 Tryz.underlying9 cStr c3Str m4
 obtain⟨a2,s2,hv2, -⟩:=laid_sentinel (laidMet.tail m4) gTerms gTermsT Tryz.underlying209 errName Tryz.underlying343 Tryz.underlying363 rfl rfl Tryz.underlying9 cErrS cStr
 have h2:W.cell? ⟨1,0,none⟩=some (errS a2):=by simpa using World.var?_cell gTerms hv2 0
 refine⟨⟨a0,a1,hne,a2⟩,fun g v hm=> ?_⟩
 unfold GL envT at hm
 simp only[List.mem_append,List.mem_cons,List.not_mem_nil,or_false,false_or,Prod.mk.injEq]at hm
 rcases hm with(⟨rfl,rfl⟩|⟨rfl,rfl⟩|⟨rfl,rfl⟩|⟨rfl,rfl⟩)|(⟨rfl,rfl⟩|⟨rfl,rfl⟩|⟨rfl,rfl⟩)|⟨rfl,rfl⟩|⟨rfl,rfl⟩
 ·refine⟨hlt (hc 0 (by omega)),fun θ i hi=>⟨rfl,fun k v hk=> ?_⟩⟩
  cases k with
  |zero=>
   simp at hk;subst hk
   have:=hc i hi
   simpa[at_,den]using this
  |succ k=>simp at hk
 ·exact⟨hlt hE,fun θ=>⟨one hE θ,fun h=>by cases h⟩⟩
 ·exact⟨hlt h0,fun θ=>⟨one h0 θ,fun h=>by cases h⟩⟩
 ·exact⟨hlt h1,fun θ=>⟨one h1 θ,fun h=>by cases h⟩⟩
 ·exact⟨hlt h2,fun θ=>⟨one h2 θ,fun h=>by cases h⟩⟩
 ·refine⟨hlt (ht 0 _ rfl),fun θ i hi=>⟨rfl,fun k v hk=> ?_⟩⟩
  cases k with
  |zero=>
   simp at hk;subst hk
   match i,hi with
   |0,_=>simpa[at_,den,tnm]using ht 0 _ rfl
   |1,_=>simpa[at_,den,tnm]using ht 1 _ rfl
   |2,_=>simpa[at_,den,tnm]using ht 2 _ rfl
  |succ k=>simp at hk
 ·refine⟨hlt (hr 0 _ rfl),fun θ i hi=>⟨rfl,fun k v hk=> ?_⟩⟩
  cases k with
  |zero=>
   simp at hk;subst hk
   match i,hi with
   |0,_=>simpa[at_,den,rlnm]using hr 0 _ rfl
   |1,_=>simpa[at_,den,rlnm]using hr 1 _ rfl
   |2,_=>simpa[at_,den,rlnm]using hr 2 _ rfl
   |3,_=>simpa[at_,den,rlnm]using hr 3 _ rfl
   |4,_=>simpa[at_,den,rlnm]using hr 4 _ rfl
  |succ k=>simp at hk
 ·exact⟨(Array.getElem?_eq_some_iff.1 hb0).1,fun θ=>⟨fun k v hk=>by simp at hk,fun _=>⟨_,_,hb0⟩⟩⟩
 ·exact⟨(Array.getElem?_eq_some_iff.1 hb1).1,fun θ=>⟨fun k v hk=>by simp at hk,fun _=>⟨_,_,hb1⟩⟩⟩
section
variable {H:Type} {enc:TypeId×Value→H}
theorem law_contractT {fid:FuncId} {f:Func} {b:TypeId} {s:ChangeSpec} (hr:f.resultTypes= #[b]) (hb:Tryz.prog.underlying b=some .bool) (hvars:s.vars=[])
  (hfn: ∀ (ds:List (DataW H)),ds.length=f.params.toList.length→s.fn H ds={results:=[.lit (.bool true)],args:=ds}) (hread: ∀ t∈f.params.toList,Tryz.prog.readableRec t=true∧t<Tryz.prog.types.size)
  (walk: ∀ (E:EnvT) (W:World) (base:Nat) (args:Array Value) (ds:List (DataW H)) (p:List MemPlace),GOk (@GL (@envT E)) W→(∀ (j:Nat) t v,f.params[j]? =some t→args[j]? =some v→Value.okWide Tryz.prog W .any base t v)→DataW.TrodAll enc Tryz.prog W 0 (fun _=>true) true f.params.toList args.toList ds p→
   Calls Tryz.prog fid args W fun e W'=>Below W.heap.size W W'∧e= .returned (.bool true))
  (W:World) (base:Nat) (args:Array Value) (ds gs:List (DataW H)) (before:List MemPlace)
  (hval: ∀ (j:Nat) t v,f.params[j]? =some t→args[j]? =some v→Value.okWide Tryz.prog W .any base t v)
  (hW:DataW.Whole enc Tryz.prog f.params.toList s.vars false W args.toList ds gs before) (hL:laidMetH Tryz.prog laidT W):
  Calls Tryz.prog fid args W fun e W'=> ∃ v,e= .returned v∧s.post enc Tryz.prog f false true false false W args v W':=
 law_contractG (fun W=> ∃ E:EnvT,GOk (@GL (@envT E)) W) hr hb hvars hfn hread (fun W base args ds p ⟨E,hG⟩=>walk E W base args ds p hG) W base args ds gs before hval hW (gokT hL)
end
noncomputable def laidWorldT (os:Os):World:=
 let w0:=World.holding Tryz.prog os ⟨#[], #[],[]⟩
 let lay (g:Nat) (v:Array Value) (h:Array Obj):Array Obj:=h.modify g fun
  | .cells _ t frozen=> .cells v t frozen
  |o=>o
 let h1:=lay 5 #[.iface 343 (.pointer (some ⟨w0.heap.size,0,none⟩))] (lay 6 #[.iface 343 (.pointer (some ⟨w0.heap.size+1,0,none⟩))] w0.heap)
 let h2:=lay 0 #[.int .i64 0, .int .i64 31, .int .i64 28, .int .i64 31, .int .i64 30, .int .i64 31, .int .i64 30, .int .i64 31, .int .i64 31, .int .i64 30, .int .i64 31, .int .i64 30, .int .i64 31] (lay 2 #[.iface 287 (.agg #[.pointer (some ⟨9,209,none⟩)])] h1)
 let h2b:=lay 4 #[.string ⟨#[110,111,110,101]⟩, .string ⟨#[102,111,108,108,111,119,105,110,103]⟩, .string ⟨#[109,111,100,102,111,108,108,111,119,105,110,103]⟩, .string ⟨#[112,114,101,99,101,100,105,110,103]⟩, .string ⟨#[109,111,100,112,114,101,99,101,100,105,110,103]⟩] (lay 3 #[.string ⟨#[98,117,108,108,101,116]⟩, .string ⟨#[101,113,117,97,108]⟩, .string ⟨#[108,101,118,101,108]⟩] (lay 1 #[.iface 343 (.pointer (some ⟨w0.heap.size+2,0,none⟩))] h2))
 let h3:=h2b.push (.cells #[.string ⟨#[110,111,32,100,97,121]⟩] 363)
 let h4:=h3.push (.cells #[.string ⟨#[100,97,121,115,32,116,104,101,32,119,114,111,110,103,32,119,97,121,32,114,111,117,110,100]⟩] 363)
 let h5:=h4.push (.cells #[.string ⟨#[116,101,114,109,115,32,116,104,97,116,32,109,97,121,32,110,111,116,32,98,101]⟩] 363)
 {w0 with heap:=h5}
end Go.Proofs.YtelidogcomffkaaGreatDoor
