/-
LoanBefore: the row and its card: for every input the law answers true and its arguments read as before.
-/
import Derived.Test.YtelidogcomffkaaGreatDoorLBe
import Derived.Test.YtelidogcomffkaaGreatDoorLifT
import Derived.Test.YtelidogcomffkaaGreatDoorCards
import Derived.Test.YtelidogcomffkaaGreatDoorTie
import Derived.Deep.Slices
set_option linter.unusedSimpArgs false
set_option linter.unusedVariables false
set_option maxRecDepth 100000
namespace Go.Proofs.YtelidogcomffkaaGreatDoor
open Go Go.Sx Go.Deep Go.ChangeShapes Go.WideShapes Go.ChangeAt Go.RowKit
section
variable {H:Type} {enc:TypeId×Value→H} {P:Program} {w:World} {base:Nat} {spare:Nat→Bool} {held:Bool}
def numAt (w:World) (a:Addr):Int:=match w.cell? a with
 |some (.int _ z)=>z
 |_=>0
theorem cell_recs {b0 B:Nat} {u e:TypeId} {fs:Array Field} {K:Nat} {x:Value} {n:Nat} {y:DataW H×List MemPlace} (hu:P.underlying u=some (.slice e)) (he:P.underlying e=some (.struct fs)) (ce:P.cellsOf e=K)
  (hF: ∀ j,j<K→ ∃ f,fs[j]? =some f∧f.offset=j∧P.cellsOf f.type=1∧P.underlying f.type=some (.int .i64)) (h:Cell.okWide P w .any b0 u x)
  (ht:DataW.trod enc P w base spare held n u [x]=some y):
  ∃ (m:Nat) (g:Nat→Nat→Int) (d:Ad),x=den (fun _=>d) (.sl 0 m)∧HpOk (fun _=>d) B [some (.row false e m K (fun i=>(List.range K).map fun j=>I (g j i)))] w:=by
 have hok: ∀ {d:Ad} {m:Nat} {g:Nat→Nat→Int},d.sz=K→m≤d.cap→(m=0∨ ∃ a,d.base=some a)→(∀ a,d.base=some a→a.spot=none)→(∀ a,d.base=some a→ ∀ i,i<m→ ∀ j,j<K→w.cell? (at_ a (i*K+j))=some (.int .i64 (g j i)))→
   HpOk (fun _=>d) B [some (.row false e m K (fun i=>(List.range K).map fun j=>I (g j i)))] w:=by
  intro d m g h1 h2 h3 h4 h5
  refine⟨fun t v hv=> ?_,fun t t' v v' hv hv' hne ho=> ?_⟩
  ·cases t with
   |zero=>
    simp at hv;subst hv
    refine⟨h1,h2,⟨h3,h4⟩,fun i hi=>⟨by simp, ?_⟩,fun a ha i hi k v hk=> ?_,fun h=>by cases h⟩
    ·rw[List.all_eq_true]
     intro q hq
     obtain⟨j, -,rfl⟩:=List.mem_map.1 hq
     rfl
    ·have hkk:k<K:=by
      have:=(List.getElem?_eq_some_iff.1 hk).1
      simpa using this
     have hv:v=I (g k i):=by
      rw[List.getElem?_map,List.getElem?_range hkk]at hk
      exact(Option.some.inj hk).symm
     subst hv
     exact h5 a ha i hi k hkk
   |succ t=>simp at hv
  ·cases t with
   |zero=>simp at hv;subst hv;cases ho
   |succ t=>simp at hv
 rcases open_slice hu ht with⟨h1, -⟩|⟨a,len,cap,m,n',D,Pl,h1, -,h3, -,h5, -,h7⟩
 ·cases h1
  exact⟨0,fun _ _=>0,⟨none,0,K⟩,rfl,hok rfl (Nat.le_refl _) (.inl rfl) (fun a ha=>by cases ha) (fun a ha=>by cases ha)⟩
 ·cases h1
  have hsp:a.spot=none:=by
   unfold Cell.okWide at h
   rw[hu]at h
   simp only at h
   unfold Cell.ok at h
   rw[hu]at h
   exact h.2.2.2.1
  have hlen:len≤m:=by rw[h5];split<;>omega
  have hat: ∀ j,a.add j=at_ a j:=by
   intro j
   obtain⟨b,o,s⟩:=a
   simp only at hsp
   subst hsp
   by_cases hi0:j=0<;>simp[at_,Addr.add,hi0]
  have key: ∀ i,i<m→ ∀ j,j<K→ ∃ z,w.cell? (at_ a (i*K+j))=some (.int .i64 z):=by
   intro i hi j hj
   obtain⟨cs',e1,e2⟩:=h7 i hi
   rw[ce]at e1
   obtain⟨_,hl,hc⟩:=World.cells?_some e1
   obtain⟨f,f1,f2,f3,f4⟩:=hF j hj
   have hj2:j<cs'.length:=by rw[hl];exact hj
   obtain⟨n2,y2,t2⟩:=trod_field he e2 j f1 f3 (ds:=[cs'[j]]) (by rw[f2,List.drop_eq_getElem_cons hj2];rfl)
   obtain⟨z,hz⟩:=trod_i64 f4 t2
   have hc2:=hc j (by omega)
   rw[add_add]at hc2
   refine⟨z, ?_⟩
   rw[←hat,hc2,List.getElem?_eq_getElem hj2,hz]
  refine⟨len,fun j i=>numAt w (at_ a (i*K+j)),⟨some a,cap,K⟩,rfl,hok rfl h3 (.inr ⟨a,rfl⟩) (fun b hb=>by cases hb;exact hsp) (fun b hb i hi j hj=> ?_)⟩
  cases hb
  obtain⟨z,hz⟩:=key i (by omega) j hj
  unfold numAt
  rw[hz]
theorem cell_rules {b0 B:Nat} {x:Value} {n:Nat} {y:DataW H×List MemPlace} (h:Cell.okWide Tryz.prog w .any b0 25 x)
  (ht:DataW.trod enc Tryz.prog w base spare held n 25 [x]=some y):
  ∃ (m:Nat) (g:Nat→Nat→Int) (d:Ad),x=den (fun _=>d) (.sl 0 m)∧HpOk (fun _=>d) B [some (.row false 109 m 8 (fun i=>[I (g 0 i),I (g 1 i),I (g 2 i),I (g 3 i),I (g 4 i),I (g 5 i),I (g 6 i),I (g 7 i)]))] w:=
 cell_recs (K:=8) Tryz.underlying25 Tryz.underlying109 (by kernel_rfl) (fun j hj=>by
  match j,hj with
  |0,_=>exact⟨_,rfl,rfl,by kernel_rfl,Tryz.underlying3⟩
  |1,_=>exact⟨_,rfl,rfl,by kernel_rfl,Tryz.underlying3⟩
  |2,_=>exact⟨_,rfl,rfl,by kernel_rfl,Tryz.underlying3⟩
  |3,_=>exact⟨_,rfl,rfl,by kernel_rfl,Tryz.underlying3⟩
  |4,_=>exact⟨_,rfl,rfl,by kernel_rfl,Tryz.underlying3⟩
  |5,_=>exact⟨_,rfl,rfl,by kernel_rfl,Tryz.underlying3⟩
  |6,_=>exact⟨_,rfl,rfl,by kernel_rfl,Tryz.underlying3⟩
  |7,_=>exact⟨_,rfl,rfl,by kernel_rfl,Tryz.underlying3⟩
  |j+8,hj=>omega) h ht
theorem rules_any {d:Ad} {B n:Nat} {e:TypeId} {g:Nat→Nat→Int} (θ θ':Th) (h:VwOk θ B w d (.row false e n 8 (fun i=>[I (g 0 i),I (g 1 i),I (g 2 i),I (g 3 i),I (g 4 i),I (g 5 i),I (g 6 i),I (g 7 i)]))):VwOk θ' B w d (.row false e n 8 (fun i=>[I (g 0 i),I (g 1 i),I (g 2 i),I (g 3 i),I (g 4 i),I (g 5 i),I (g 6 i),I (g 7 i)])):=
 h.sc (n:=0) (fun t ht=>absurd ht (Nat.not_lt_zero _)) (fun i=>rfl)
end
end Go.Proofs.YtelidogcomffkaaGreatDoor
namespace Go.Proofs.YtelidogcomffkaaGreatDoor.loanBefore
open Go Go.Sx Go.Deep Go.ChangeShapes Go.WideShapes Go.ChangeAt Go.RowKit
theorem walk {H:Type} {enc:TypeId×Value→H} (E:EnvT) (W:World) (base:Nat) (args:Array Value) (ds:List (DataW H)) (p:List MemPlace) (hG:GOk (@GL (@envT E)) W) (hv: ∀ (j:Nat) t v,Tryz.f9.params[j]? =some t→args[j]? =some v→Value.okWide Tryz.prog W .any base t v) (hA:DataW.TrodAll enc Tryz.prog W 0 (fun _=>true) true Tryz.f9.params.toList args.toList ds p):
  Calls Tryz.prog 9 args W fun e W'=>Below W.heap.size W W'∧e= .returned (.bool true):=by
 rw[Tryz.params9]at hv hA
 obtain⟨v0,v1,v2,d0,d1,d2,p0,p1,p2,rfl,rfl,rfl,t0,t1,t2⟩:=trodAll_three hA
 obtain⟨cs0,rfl,hl0,h0⟩:=open_cells Tryz.underlying23 (ts:=[3,3,3,3,3,3,3,4,4,4,3]) (by kernel_rfl) (by kernel_rfl) (hv 0 _ _ rfl rfl)
 obtain⟨c0_0,c0_1,c0_2,c0_3,c0_4,c0_5,c0_6,c0_7,c0_8,c0_9,c0_10,rfl⟩: ∃ c0_0 c0_1 c0_2 c0_3 c0_4 c0_5 c0_6 c0_7 c0_8 c0_9 c0_10,cs0=[c0_0,c0_1,c0_2,c0_3,c0_4,c0_5,c0_6,c0_7,c0_8,c0_9,c0_10]:=by
  match cs0,hl0 with
  |[c0_0,c0_1,c0_2,c0_3,c0_4,c0_5,c0_6,c0_7,c0_8,c0_9,c0_10],_=>exact⟨c0_0,c0_1,c0_2,c0_3,c0_4,c0_5,c0_6,c0_7,c0_8,c0_9,c0_10,rfl⟩
 obtain⟨m0,tr0⟩:=t0
 obtain⟨a0,rfl,i0⟩:=cell_int Tryz.underlying3 (h0 0 _ _ rfl rfl)
 obtain⟨a1,rfl,i1⟩:=cell_int Tryz.underlying3 (h0 1 _ _ rfl rfl)
 obtain⟨a2,rfl,i2⟩:=cell_int Tryz.underlying3 (h0 2 _ _ rfl rfl)
 obtain⟨a3,rfl,i3⟩:=cell_int Tryz.underlying3 (h0 3 _ _ rfl rfl)
 obtain⟨a4,rfl,i4⟩:=cell_int Tryz.underlying3 (h0 4 _ _ rfl rfl)
 obtain⟨a5,rfl,i5⟩:=cell_int Tryz.underlying3 (h0 5 _ _ rfl rfl)
 obtain⟨a6,rfl,i6⟩:=cell_int Tryz.underlying3 (h0 6 _ _ rfl rfl)
 obtain⟨a7,rfl⟩:=cell_bool Tryz.underlying4 (h0 7 _ _ rfl rfl)
 obtain⟨a8,rfl⟩:=cell_bool Tryz.underlying4 (h0 8 _ _ rfl rfl)
 obtain⟨a9,rfl⟩:=cell_bool Tryz.underlying4 (h0 9 _ _ rfl rfl)
 obtain⟨a10,rfl,i10⟩:=cell_int Tryz.underlying3 (h0 10 _ _ rfl rfl)
 obtain⟨cs1,rfl,hl1,h1⟩:=open_cells Tryz.underlying28 (ts:=[4,4,4,4,4,4,4,25,26]) (by kernel_rfl) (by kernel_rfl) (hv 1 _ _ rfl rfl)
 obtain⟨c1_0,c1_1,c1_2,c1_3,c1_4,c1_5,c1_6,c1_7,c1_8,rfl⟩: ∃ c1_0 c1_1 c1_2 c1_3 c1_4 c1_5 c1_6 c1_7 c1_8,cs1=[c1_0,c1_1,c1_2,c1_3,c1_4,c1_5,c1_6,c1_7,c1_8]:=by
  match cs1,hl1 with
  |[c1_0,c1_1,c1_2,c1_3,c1_4,c1_5,c1_6,c1_7,c1_8],_=>exact⟨c1_0,c1_1,c1_2,c1_3,c1_4,c1_5,c1_6,c1_7,c1_8,rfl⟩
 obtain⟨m1,tr1⟩:=t1
 obtain⟨a11,rfl⟩:=cell_bool Tryz.underlying4 (h1 0 _ _ rfl rfl)
 obtain⟨a12,rfl⟩:=cell_bool Tryz.underlying4 (h1 1 _ _ rfl rfl)
 obtain⟨a13,rfl⟩:=cell_bool Tryz.underlying4 (h1 2 _ _ rfl rfl)
 obtain⟨a14,rfl⟩:=cell_bool Tryz.underlying4 (h1 3 _ _ rfl rfl)
 obtain⟨a15,rfl⟩:=cell_bool Tryz.underlying4 (h1 4 _ _ rfl rfl)
 obtain⟨a16,rfl⟩:=cell_bool Tryz.underlying4 (h1 5 _ _ rfl rfl)
 obtain⟨a17,rfl⟩:=cell_bool Tryz.underlying4 (h1 6 _ _ rfl rfl)
 obtain⟨_,_,s18⟩:=trod_field Tryz.underlying28 tr1 1 (k:=1) (ds:=[c1_7]) rfl (by kernel_rfl) rfl
 obtain⟨n18,g18,e18,rfl,H18⟩:=cell_rules (B:=W.heap.size) (h1 7 _ _ rfl rfl) s18
 obtain⟨_,_,s19⟩:=trod_field Tryz.underlying28 tr1 2 (k:=1) (ds:=[c1_8]) rfl (by kernel_rfl) rfl
 obtain⟨n19,g19,e19,rfl,H19⟩:=cell_ints (B:=W.heap.size) Tryz.underlying26 Tryz.underlying3 (by kernel_rfl) (h1 8 _ _ rfl rfl) s19
 obtain⟨a20,rfl,i20⟩:=val_int Tryz.underlying68 (hv 2 _ _ rfl rfl)
 exact scall_true (θ:=fun t=>if t=0 then e18 else e19) (args:=[.agg [I a0,I a1,I a2,I a3,I a4,I a5,I a6,B a7,B a8,B a9,I a10], .agg [B a11,B a12,B a13,B a14,B a15,B a16,B a17, .sl 0 n18, .sl 1 n19],N .u16 a20]) (lBefore ⟨a0,a1,a2,a3,a4,a5,a6,a7,a8,a9,a10⟩ ⟨fun i=>[a11,a12,a13,a14,a15,a16,a17].getD i false,n18,fun i=>⟨g18 0 i,g18 1 i,g18 2 i,g18 3 i,g18 4 i,g18 5 i,g18 6 i,g18 7 i⟩,n19,g19⟩ i20) (hp_two rfl rfl (hp_one H18 rules_any) (hp_one H19 ints_any)) hG
theorem contract (H:Type) (enc:TypeId×Value→H) (W:World) (base:Nat) (args:Array Value) (ds gs:List (DataW H)) (before:List MemPlace)
  (hval: ∀ (j:Nat) t v,Tryz.f9.params[j]? =some t→args[j]? =some v→Value.okWide Tryz.prog W .any base t v)
  (hW:DataW.Whole enc Tryz.prog Tryz.f9.params.toList Rows.loanBeforeSpec.vars false W args.toList ds gs before) (hL:laidMetH Tryz.prog Rows.loanBeforeRow.laid W):
  Calls Tryz.prog 9 args W fun e W'=> ∃ v,e= .returned v∧Rows.loanBeforeSpec.post enc Tryz.prog Tryz.f9 false true false false W args v W':=
 law_contractT (f:=Tryz.f9) (b:=4) (by kernel_rfl) Tryz.underlying4 rfl (fun ds hl=>by
  rw[Tryz.params9]at hl
  match ds,hl with
  |[x0,x1,x2],_=>rfl) (by rw[Tryz.params9];intro t ht;simp only[List.mem_cons,List.not_mem_nil,or_false]at ht;rcases ht with rfl|rfl|rfl<;>exact⟨by kernel_rfl,of_decide_eq_true (by kernel_rfl)⟩) walk W base args ds gs before hval hW hL
theorem laid_met (os:Os):laidMetH Tryz.prog Rows.loanBeforeRow.laid ((laidWorldT os).forCall (fun _ _=>0) ⟨#[], #[.agg #[.int .i64 0, .int .i64 0, .int .i64 0, .int .i64 0, .int .i64 0, .int .i64 0, .int .i64 0, .bool false, .bool false, .bool false, .int .i64 0], .agg #[.bool false, .bool false, .bool false, .bool false, .bool false, .bool false, .bool false, .slice none 0 0, .slice none 0 0], .int .u16 0],[]⟩).memory:=
 laidMetH_of_parts (laidMet_of_run' 8 (by kernel_rfl) (by kernel_rfl)) (by kernel_rfl)
theorem reads (os:Os) {H:Type} (enc:TypeId×Value→H): ∃ places,DataW.whole enc Tryz.prog ((laidWorldT os).forCall (fun _ _=>0) ⟨#[], #[.agg #[.int .i64 0, .int .i64 0, .int .i64 0, .int .i64 0, .int .i64 0, .int .i64 0, .int .i64 0, .bool false, .bool false, .bool false, .int .i64 0], .agg #[.bool false, .bool false, .bool false, .bool false, .bool false, .bool false, .bool false, .slice none 0 0, .slice none 0 0], .int .u16 0],[]⟩).memory Tryz.f9.params.toList Rows.loanBeforeSpec.vars false #[Value.agg #[.int .i64 0, .int .i64 0, .int .i64 0, .int .i64 0, .int .i64 0, .int .i64 0, .int .i64 0, .bool false, .bool false, .bool false, .int .i64 0],Value.agg #[.bool false, .bool false, .bool false, .bool false, .bool false, .bool false, .bool false, .slice none 0 0, .slice none 0 0],Value.int .u16 0].toList 8=some ([.agg [.lit (.int .i64 0), .lit (.int .i64 0), .lit (.int .i64 0), .lit (.int .i64 0), .lit (.int .i64 0), .lit (.int .i64 0), .lit (.int .i64 0), .lit (.bool false), .lit (.bool false), .lit (.bool false), .lit (.int .i64 0)], .agg [.agg [.lit (.bool false), .lit (.bool false), .lit (.bool false), .lit (.bool false), .lit (.bool false), .lit (.bool false), .lit (.bool false)], .nil, .nil], .lit (.int .u16 0)],[],places):=
 ⟨[],by kernel_rfl⟩
theorem lifted (os:Os) (started:os.Started) (H:Type) (enc:TypeId×Value→H) (F:Stop.Interp):
  ReturnsInHanded {} Tryz.checked os 9 .any ((OpenSpec.ofChange Rows.loanBeforeSpec).preRow enc Tryz.prog Tryz.f9 Rows.loanBeforeRow.domain false Rows.loanBeforeRow.laid) (((OpenSpec.ofChange Rows.loanBeforeSpec).at F).post enc Tryz.prog Tryz.f9 false true false false):=by
 obtain⟨places,hx⟩:=reads os enc
 refine returnsInHanded_of_row (C:=Tryz.checked) (s:=OpenSpec.ofChange Rows.loanBeforeSpec) own started (by kernel_rfl) Tryz.func9
  (witness_row_at (enc:=enc) (C:=Tryz.checked) false (laidWorldT os) #[.agg #[.int .i64 0, .int .i64 0, .int .i64 0, .int .i64 0, .int .i64 0, .int .i64 0, .int .i64 0, .bool false, .bool false, .bool false, .int .i64 0], .agg #[.bool false, .bool false, .bool false, .bool false, .bool false, .bool false, .bool false, .slice none 0 0, .slice none 0 0], .int .u16 0] rfl (by kernel_rfl) (by kernel_rfl) (by kernel_rfl)
   (OpenSpec.preRow_of_cond 8 hx (by kernel_rfl) (fun k hk=>by cases hk) (by kernel_rfl) (laid_met os))) ?_
 intro W base args ds gs before hval hW _ _ _ hL _ _
 exact contract H enc W base args ds gs before hval hW hL
theorem j1:(Rows.loanBeforeRow.inPlace==Tryz.pinned.checked.prog.inPlace 9)=true:=by kernel_rfl
theorem j2:(Rows.loanBeforeRow.unfollowed==Tryz.pinned.checked.prog.unfollowed 9)=true:=by kernel_rfl
theorem j3:(Rows.loanBeforeRow.recurses==Tryz.pinned.checked.prog.recurses 9)=true:=by kernel_rfl
theorem j4:(Rows.loanBeforeRow.named==Tryz.pinned.checked.prog.varsNamed 9)=true:=by kernel_rfl
theorem j5:(Rows.loanBeforeRow.lifted==Tryz.pinned.checked.prog.liftsFinal)=true:=fLifts
theorem facts:joinedFacts Tryz.pinned.checked.prog 9 Tryz.f9 (OpenSpec.ofChange Rows.loanBeforeSpec).bare Rows.loanBeforeRow=true:=by
 unfold joinedFacts
 rw[j1,j2,j3,j4,j5,fMay,fHeard,fMaps,fOut]
 kernel_rfl
theorem funcNo:Tryz.pinned.checked.prog.funcNamed Rows.loanBeforeRow.func=some 9:=by kernel_rfl
theorem goes:false=Rows.loanBeforeRow.goesBy Tryz.pinned.checked.prog:=by kernel_rfl
theorem words:OpenClaim.wfByText (OpenSpec.ofChange Rows.loanBeforeSpec) Rows.loanBeforeRow=true:=by kernel_rfl
theorem said:Rows.LoanBeforeSaid:=
 OpenClaim.holds_of_cond 9 Tryz.f9 rfl rfl rfl rfl rfl rfl rfl ⟨rfl,rfl,rfl,rfl,rfl⟩ rfl rfl rfl rfl rfl funcNo Tryz.func9 facts
  (of_decide_eq_true (by kernel_rfl)) (by unfold Func.isWrapper;first|(rw[if_pos (by decide+kernel)];kernel_rfl)|(rw[if_neg (by decide+kernel)];exact⟨rfl,rfl⟩))
  (fun os started H enc _ F=>by rw[OpenClaim.pre_eq_preRow];exact lifted os started H enc F)
theorem plain (f:FuncId) (fn:Func) (hf:Tryz.pinned.checked.prog.funcNamed "demurrage/demurragelaw22.LoanBefore" =some f) (hfn:Tryz.pinned.checked.prog.funcs[f]? =some fn):
  true=Tryz.pinned.checked.prog.looks []∧ ∀ (j:Nat) t,fn.params[j]? =some t→Tryz.pinned.checked.prog.wantsStandIn t=false:=by
 obtain rfl:f=9:=Option.some.inj ((show Tryz.prog.funcNamed "demurrage/demurragelaw22.LoanBefore" =some 9 by kernel_rfl).symm.trans hf) |>.symm
 obtain rfl:fn=Tryz.f9:=(Option.some.inj (Tryz.func9.symm.trans hfn)).symm
 refine⟨fLooks,fun j t ht=> ?_⟩
 rw[Tryz.params9]at ht
 have hm:=Array.mem_of_getElem? ht
 simp only[List.mem_toArray,List.mem_cons,List.not_mem_nil,or_false]at hm
 have s0:Tryz.prog.wantsStandIn 23=false:=(by kernel_rfl);have s1:Tryz.prog.wantsStandIn 28=false:=(by kernel_rfl);have s2:Tryz.prog.wantsStandIn 68=false:=(by kernel_rfl);rcases hm with rfl|rfl|rfl
 ·exact s0
 ·exact s1
 ·exact s2
theorem card:Rows.LoanBeforeCardSaid:=
 Claim7.holds_tied_plain_at .later [] _ _ _ _ said (fun _ h=>by cases h) words (fun _ h=>by cases h) loanBefore_row_tie rfl ⟨rfl,rfl⟩ mainIs rfl plain goes
end Go.Proofs.YtelidogcomffkaaGreatDoor.loanBefore
#print axioms Go.Proofs.YtelidogcomffkaaGreatDoor.loanBefore.card
