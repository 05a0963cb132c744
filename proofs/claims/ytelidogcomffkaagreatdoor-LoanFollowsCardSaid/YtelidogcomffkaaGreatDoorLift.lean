/-
From a contract of SX to the row that is asked: the laid variables, the argument opened, the state behind the call.
-/
import Derived.Test.YtelidogcomffkaaGreatDoorBit
import Derived.Stop.LaidTwo
import Derived.ChangeCalls
import Derived.Test.YtelidogcomffkaaGreatDoorRows
import Derived.Test.YtelidogcomffkaaGreatDoorCards
import Derived.WalkKit
import Derived.ProofKit
import Derived.OpenShut
import Derived.Deep.DeepHandedRow
import Derived.Deep.Fields
import Derived.Lib.LaidTab
import Derived.Carry
import Derived.LaidHandle
import Derived.LaidLaws
import Derived.ChangeSlices
import Derived.ChangeSame
import Derived.RowKit
set_option linter.unusedSimpArgs false
set_option linter.unusedVariables false
set_option maxRecDepth 100000
namespace Go.Proofs.YtelidogcomffkaaGreatDoor
open Go Go.Sx Go.Deep Go.ChangeShapes Go.WideShapes Go.ChangeAt Go.RowKit
theorem laidOut:laidOutB Tryz.prog=true:=by kernel_rfl
theorem own:ownKnob Tryz.prog.godebug=none:=by kernel_rfl
theorem gLen:Tryz.prog.globalNamed "demurrage/civil.lengths" =some 0:=by kernel_rfl
theorem gLenType:(Tryz.prog.globals[0]?).map (·.type)=some 188:=by kernel_rfl
theorem cLen:Tryz.prog.cellsOf 188=13:=by kernel_rfl
theorem cInt:Tryz.prog.cellsOf 3=1:=by kernel_rfl
theorem gErr:Tryz.prog.globalNamed "errors.errorType" =some 2:=by kernel_rfl
theorem rtNo:(Tryz.prog.cutTypes.find? (·.1== "internal/reflectlite.rtype")).map (·.2)=some 287:=by kernel_rfl
theorem nTypes:Tryz.prog.types.size=474-100:=by kernel_rfl
theorem oneRow:((List.range (474-100)).filter fun t=>Tryz.prog.rowNamed t [101,114,114,111,114])=[209]:=by kernel_rfl
theorem gNone:Tryz.prog.globalNamed "demurrage/actual.errNone" =some 5:=by kernel_rfl
theorem gTurns:Tryz.prog.globalNamed "demurrage/actual.errTurns" =some 6:=by kernel_rfl
theorem gNoneT:(Tryz.prog.globals[5]?).map (·.type)=some 209:=by kernel_rfl
theorem gTurnsT:(Tryz.prog.globals[6]?).map (·.type)=some 209:=by kernel_rfl
theorem errName (u:TypeId) (h:Tryz.prog.typeName? 3 u=some "*errors.errorString"):u=343:=
 typeName_ptr_named (nm:= "errors.errorString") (by rw[show "*" ++ "errors.errorString" = "*errors.errorString" by decide];kernel_rfl) (by kernel_rfl) (by decide) u (by rw[show "*" ++ "errors.errorString" = "*errors.errorString" by decide];exact h)
theorem cStr:Tryz.prog.cellsOf 9=1:=by kernel_rfl
theorem cErrS:Tryz.prog.cellsOf 363=1:=by kernel_rfl
theorem laidMet.tail {P:Program} {x:String×DataW Unit} {xs:List (String×DataW Unit)} {w:World} (h:laidMet P (x::xs) w):laidMet P xs w:=by
 obtain⟨ps,⟨g,t,cs,f,p,q,hg,ht,hv,hd,hq,rfl⟩,hnd,hr⟩:=h
 exact⟨q,hq,(List.nodup_append.1 hnd).2.1,fun b off hm=>hr b off (List.mem_append_right _ hm)⟩
section
variable {H:Type} {enc:TypeId×Value→H} {P:Program} {w:World} {base:Nat} {spare:Nat→Bool} {held:Bool}
theorem cell_int {b0:Nat} {u:TypeId} {k:IntKind} {x:Value} (hu:P.underlying u=some (.int k)) (h:Cell.okWide P w .any b0 u x): ∃ n,x= .int k n∧InR k n:=by
 unfold Cell.okWide at h
 rw[hu]at h
 simp only at h
 unfold Cell.ok at h
 rw[hu]at h
 cases x<;>simp only at h<;>first|exact h.elim|skip
 rename_i k' n
 obtain⟨rfl,h1,h2⟩:=h
 refine⟨n,rfl, ?_⟩
 cases k'<;>simp[IntKind.min,IntKind.max,IntKind.signed,IntKind.bits]at h1 h2<;>simp[InR]<;>omega
theorem cell_bool {b0:Nat} {u:TypeId} {x:Value} (hu:P.underlying u=some .bool) (h:Cell.okWide P w .any b0 u x): ∃ b,x= .bool b:=by
 unfold Cell.okWide at h
 rw[hu]at h
 simp only at h
 unfold Cell.ok at h
 rw[hu]at h
 cases x<;>simp only at h<;>first|exact h.elim|skip
 exact⟨_,rfl⟩
theorem cell_ints {b0 B:Nat} {u e:TypeId} {x:Value} {n:Nat} {y:DataW H×List MemPlace} (hu:P.underlying u=some (.slice e)) (he:P.underlying e=some (.int .i64)) (hc:P.cellsOf e=1) (h:Cell.okWide P w .any b0 u x)
  (ht:DataW.trod enc P w base spare held n u [x]=some y):
  ∃ (m:Nat) (g:Nat→Int) (d:Ad),x=den (fun _=>d) (.sl 0 m)∧HpOk (fun _=>d) B [some (.row false e m 1 (fun i=>[I (g i)]))] w:=by
 have hok: ∀ {d:Ad} {m:Nat} {g:Nat→Int},d.sz=1→m≤d.cap→(m=0∨ ∃ a,d.base=some a)→(∀ a,d.base=some a→a.spot=none)→(∀ a,d.base=some a→ ∀ i,i<m→w.cell? (a.add i)=some (.int .i64 (g i)))→
   HpOk (fun _=>d) B [some (.row false e m 1 (fun i=>[I (g i)]))] w:=by
  intro d m g h1 h2 h3 h4 h5
  refine⟨fun t v hv=> ?_,fun t t' v v' hv hv' hne ho=> ?_⟩
  ·cases t with
   |zero=>
    simp at hv;subst hv
    refine⟨h1,h2,⟨h3,h4⟩,fun i hi=>⟨rfl,rfl⟩,fun a ha i hi k v hk=> ?_,fun h=>by cases h⟩
    cases k with
    |zero=>
     simp at hk;subst hk
     have:=h5 a ha i hi
     have hsp:=h4 a ha
     obtain⟨b,o,s⟩:=a
     simp only at hsp
     subst hsp
     by_cases hi0:i=0<;>simpa[at_,Addr.add,den,hi0]using this
    |succ k=>simp at hk
   |succ t=>simp at hv
  ·cases t with
   |zero=>simp at hv;subst hv;cases ho
   |succ t=>simp at hv
 rcases open_ints hu he hc ht with⟨h1, -⟩|⟨a,len,cap,zs,h1, -,h3, -,h5, -,h7, -⟩
 ·cases h1
  exact⟨0,fun _=>0,⟨none,0,1⟩,rfl,hok rfl (Nat.le_refl _) (.inl rfl) (fun a ha=>by cases ha) (fun a ha=>by cases ha)⟩
 ·cases h1
  have hsp:a.spot=none:=by
   unfold Cell.okWide at h
   rw[hu]at h
   simp only at h
   unfold Cell.ok at h
   rw[hu]at h
   exact h.2.2.2.1
  have hlen:len≤zs.length:=by rw[h5];split<;>omega
  refine⟨len,fun i=>zs.getD i 0,⟨some a,cap,1⟩,rfl,hok rfl h3 (.inr ⟨a,rfl⟩) (fun b hb=>by cases hb;exact hsp) (fun b hb i hi=> ?_)⟩
  cases hb
  exact h7 i (by omega)
theorem post_below {f:Func} {s:ChangeSpec} {apart fresh handsOn again:Bool} {W W':World} {args:Array Value} {v:Value} {ds gs:List (DataW H)} {before pa pv:List MemPlace}
  (hW:DataW.Whole enc P f.params.toList s.vars apart W args.toList ds gs before)
  (hres: ∀ (b:Nat) (sp:Nat→Bool) (hd:Bool),DataW.TrodAll enc P W' b sp hd f.resultTypes.toList (v.resultList f.resultTypes.size) (s.fn H (ds++gs)).results [])
  (hargs: ∀ sp:Nat→Bool,(∀ p∈before,sp p.block=true)→DataW.TrodAll enc P W' 0 sp true f.params.toList args.toList (s.fn H (ds++gs)).args pa)
  (hvars: ∀ sp:Nat→Bool,(∀ p∈before,sp p.block=true)→DataW.TrodVars enc P W' sp s.vars (s.fn H (ds++gs)).vars pv)
  (hps:before=pa++pv) (hk:W.keptBut W' (· ∈before)) (hfz: ∀ a:Addr,a.block<W.heap.size→W'.frozen? a=W.frozen? a)
  (hok: ∀ (j:Nat) (t:TypeId) (r:Value),f.resultTypes[j]? =some t→(v.resultList f.resultTypes.size)[j]? =some r→Value.okWide P W' .any 0 t r):
  s.post enc P f apart fresh handsOn again W args v W':=by
 have hold: ∀ p∈before,(fun b=>decide (b<W.heap.size)) p.block=true:=fun p hp=>by simpa using hW.lt p hp
 have hlt: ∀ p∈before,p.block<W.heap.size:=fun p hp=>hW.lt p hp
 refine⟨ds,gs,before,[],pa,pv,hW,hres _ _ _,hargs _ hold,hvars _ hold,World.keptBut_mono (fun p hp=>⟨hp, ?_⟩) hk,fun _=> ?_⟩
 ·rw[hps,List.mem_append]at hp
  exact Or.inr hp
 ·obtain⟨_,_,_,_,_,hz,hn⟩:=hW
  refine⟨hok,_,_,([]++pa)++pv,⟨[]++pa,pv,trodAll_append (hargs _ (fun _ _=>rfl)) (hres _ _ _),hvars _ (fun _ _=>rfl),rfl, ?_, ?_⟩, ?_⟩
  ·intro b off hp
   have hp':MemPlace.cell b off∈before:=by rw[hps];simpa using hp
   rw[hfz _ (hlt _ hp')]
   exact hz b off hp'
  ·intro ha
   have:=hn ha
   rw[hps]at this
   simpa using this
  ·intro p hp _
   rw[hps]
   simpa using hp
end
section
variable {H:Type} {enc:TypeId×Value→H} {P:Program} {w:World} {base:Nat} {spare:Nat→Bool} {held:Bool}
theorem open_cells {b0:Nat} {t:TypeId} {fs:Array Field} {ts:List TypeId} {v:Value} (hs:P.underlying t=some (.struct fs))
  (hts:P.cellTypes P.depth t=some ts) (hC:P.cellsOf t=ts.length) (hv:Value.okWide P w .any b0 t v):
  ∃ cs:List Value,v= .agg cs.toArray∧cs.length=ts.length∧(∀ (i:Nat) (x:Value) (u:TypeId),cs[i]? =some x→ts[i]? =some u→Cell.okWide P w .any b0 u x):=by
 unfold Value.okWide at hv
 rw[hs]at hv
 obtain⟨cs,rfl,hsz,ts',h1,⟨n,h2⟩,h3⟩:=hv
 rw[hts]at h1;cases h1
 refine⟨cs.toList,by simp,by simp[hsz,hC],fun i x u hx hu'=> ?_⟩
 have hx':cs[i]? =some x:=by simpa using hx
 obtain⟨u',hu,hk⟩:=h3 i x hx'
 have hi:i<ts.length:=by rw[←hC,←hsz];exact(Array.getElem?_eq_some_iff.1 hx').1
 rw[Nat.mod_eq_of_lt hi,hu']at hu
 cases hu
 exact hk
theorem trod_field {t:TypeId} {fs:Array Field} {n:Nat} {cs:List Value} {x:DataW H×List MemPlace} (hs:P.underlying t=some (.struct fs)) (h:DataW.trod enc P w base spare held n t cs=some x) (i:Nat) {f:Field} {k:Nat} {ds:List Value}
  (hf:fs[i]? =some f) (hk:P.cellsOf f.type=k) (hd:(cs.drop f.offset).take k=ds): ∃ n y,DataW.trod enc P w base spare held n f.type ds=some y:=by
 obtain⟨xs,m, -, -,hlen,hxs,hfd⟩:=DataW.trod_struct hs h
 have h4:=hfd i f hf
 have hi:i<xs.length:=by rw[hxs];exact(Array.getElem?_eq_some_iff.1 hf).1
 rw[hk,hd,List.getElem?_eq_getElem hi]at h4
 exact⟨m,_,h4⟩
theorem val_int {b0:Nat} {u:TypeId} {k:IntKind} {x:Value} (hu:P.underlying u=some (.int k)) (h:Value.okWide P w .any b0 u x): ∃ n,x= .int k n∧InR k n:=by
 unfold Value.okWide at h
 rw[hu]at h
 exact cell_int hu h
theorem hp_two {d d':Ad} {B:Nat} {v v':Vw} (ho:v.own=false) (ho':v'.own=false) (hv: ∀ θ,VwOk θ B w d v) (hv': ∀ θ,VwOk θ B w d' v'):HpOk (fun t=>if t=0 then d else d') B [some v,some v'] w:=by
 refine⟨fun t x hx=> ?_,fun t t' x x' hx hx' hne hox=> ?_⟩
 ·match t,hx with
  |0,hx=>simp at hx;subst hx;exact hv _
  |1,hx=>simp at hx;subst hx;exact hv' _
  |t+2,hx=>simp at hx
 ·match t,hx with
  |0,hx=>simp at hx;subst hx;rw[ho]at hox;cases hox
  |1,hx=>simp at hx;subst hx;rw[ho']at hox;cases hox
  |t+2,hx=>simp at hx
theorem hp_one {d:Ad} {B:Nat} {v:Vw} (h:HpOk (fun _=>d) B [some v] w) (hs: ∀ θ θ',VwOk θ B w d v→VwOk θ' B w d v): ∀ θ,VwOk θ B w d v:=fun θ=>hs _ θ (h.vw 0 v rfl)
theorem ints_any {d:Ad} {B n:Nat} {e:TypeId} {g:Nat→Int} (θ θ':Th) (h:VwOk θ B w d (.row false e n 1 (fun i=>[I (g i)]))):VwOk θ' B w d (.row false e n 1 (fun i=>[I (g i)])):=by
 obtain⟨h1,h2,h3,h4,h5,h6⟩:=h
 refine⟨h1,h2,h3,h4,fun a ha i hi k v hk=> ?_,fun h=>by cases h⟩
 have:=h5 a ha i hi k v hk
 cases k with
 |zero=>simp at hk;subst hk;exact this
 |succ k=>simp at hk
end
section
variable {H:Type} {enc:TypeId×Value→H}
theorem trodAll_stays {W W':World} (hbel:Below W.heap.size W W'): ∀ {ts:List TypeId} {vs:List Value} {ds:List (DataW H)} {p:List MemPlace},(∀ t∈ts,Tryz.prog.readableRec t=true∧t<Tryz.prog.types.size)→DataW.TrodAll enc Tryz.prog W 0 (fun _=>true) true ts vs ds p→
  (∀ x∈p,x.block<W.heap.size)→ ∀ sp:Nat→Bool,(∀ x∈p,sp x.block=true)→DataW.TrodAll enc Tryz.prog W' 0 sp true ts vs ds p
 |[],_,_,_,_,h,_,_,_=>by
  obtain⟨rfl,rfl,rfl⟩:=trodAll_nil h
  rfl
 |t::ts,_,_,_,hr,h,hlt,sp,hsp=>by
  obtain⟨v,vs',d,ds',p,q,rfl,rfl,rfl,h0,h1⟩:=trodAll_cons h
  obtain⟨r1,r2⟩:=hr t (.head _)
  exact trodAll_cons_mk (Go.WideElems.Trod_stays laidOut r1 r2 h0 (fun x hx=>hbel.same (hlt x (List.mem_append_left _ hx))) (fun x hx=>hsp x (List.mem_append_left _ hx)))
   (trodAll_stays hbel (fun t ht=>hr t (.tail _ ht)) h1 (fun x hx=>hlt x (List.mem_append_right _ hx)) sp (fun x hx=>hsp x (List.mem_append_right _ hx)))
theorem law_contractG (G:World→Prop) {fid:FuncId} {f:Func} {b:TypeId} {s:ChangeSpec} (hr:f.resultTypes= #[b]) (hb:Tryz.prog.underlying b=some .bool) (hvars:s.vars=[])
  (hfn: ∀ (ds:List (DataW H)),ds.length=f.params.toList.length→s.fn H ds={results:=[.lit (.bool true)],args:=ds}) (hread: ∀ t∈f.params.toList,Tryz.prog.readableRec t=true∧t<Tryz.prog.types.size)
  (walk: ∀ (W:World) (base:Nat) (args:Array Value) (ds:List (DataW H)) (p:List MemPlace),G W→(∀ (j:Nat) t v,f.params[j]? =some t→args[j]? =some v→Value.okWide Tryz.prog W .any base t v)→DataW.TrodAll enc Tryz.prog W 0 (fun _=>true) true f.params.toList args.toList ds p→
   Calls Tryz.prog fid args W fun e W'=>Below W.heap.size W W'∧e= .returned (.bool true))
  (W:World) (base:Nat) (args:Array Value) (ds gs:List (DataW H)) (before:List MemPlace)
  (hval: ∀ (j:Nat) t v,f.params[j]? =some t→args[j]? =some v→Value.okWide Tryz.prog W .any base t v)
  (hW:DataW.Whole enc Tryz.prog f.params.toList s.vars false W args.toList ds gs before) (hG:G W):
  Calls Tryz.prog fid args W fun e W'=> ∃ v,e= .returned v∧s.post enc Tryz.prog f false true false false W args v W':=by
 have hW':=hW
 obtain⟨p,q,hA0,hV,rfl,hfz,hnd⟩:=hW
 have hA:DataW.TrodAll enc Tryz.prog W 0 (fun _=>true) true f.params.toList args.toList ds p:=hA0
 rw[hvars]at hV
 obtain⟨rfl,rfl⟩:=trodVars_none hV
 simp only[List.append_nil]at hW'
 refine(walk W base args ds p hG hval hA).mono fun e W' ⟨hbel,he⟩=> ?_
 subst he
 have hlt: ∀ x∈p,x.block<W.heap.size:=fun x hx=>by simpa using hW'.lt x hx
 have hlen:ds.length=f.params.toList.length:=(trodAll_length hA).2
 have hfn':s.fn H (ds++[])={results:=[.lit (.bool true)],args:=ds}:=by rw[List.append_nil];exact hfn ds hlen
 refine⟨_,rfl,post_below (pa:=p) (pv:=[]) hW' (fun bb sp hd=> ?_) (fun sp hsp=> ?_) (fun _ _=> ?_) (by simp) ?_ ?_ (ok_one hr rfl (okWide_bool_mk hb _))⟩
 ·rw[hfn',hr]
  exact trodAll_mk1 (shut_bool hb _)
 ·rw[hfn']
  exact trodAll_stays hbel hread hA hlt sp hsp
 ·rw[hfn',hvars]
  rfl
 ·exact hbel.frame _
 ·exact fun a ha=>hbel.frozen ha
end
theorem scall_true [Env] {f:FuncId} {args:List SV} {hp:List (Option Vw)} {θ:Th} {W:World} (h:SCall Tryz.prog GL f args hp (B true) []) (hH:HpOk θ W.heap.size hp W) (hG:GOk GL W):
  Calls Tryz.prog f (denL θ args).toArray W fun e W'=>Below W.heap.size W W'∧e= .returned (.bool true):=
 (h θ W hH hG).mono fun e W' ⟨hb,r,he,nw,hr⟩=>⟨hb,by rw[he,(hr θ (fun _ _=>rfl) (fun k hk=>absurd hk (Nat.not_lt_zero k))).1];rfl⟩
theorem fMay:Tryz.pinned.checked.prog.mayEnter=true:=by kernel_rfl
theorem fHeard:Tryz.pinned.checked.prog.stopsHeard=true:=by kernel_rfl
theorem fMaps:mapsRowed Tryz.pinned.checked.prog=true:=by kernel_rfl
theorem fOut:laidOutB Tryz.pinned.checked.prog=true:=by kernel_rfl
theorem fLifts:(Rows.loanTellsRow.lifted==Tryz.pinned.checked.prog.liftsFinal)=true:=by kernel_rfl
theorem fLooks:true=Tryz.pinned.checked.prog.looks []:=by kernel_rfl
theorem mainIs:Tryz.pinned.checked.prog.mainIs=some (Rows.loanTellsCard.stood.harness.1,Rows.loanTellsCard.stood.harness.2.toList):=by kernel_rfl
end Go.Proofs.YtelidogcomffkaaGreatDoor
