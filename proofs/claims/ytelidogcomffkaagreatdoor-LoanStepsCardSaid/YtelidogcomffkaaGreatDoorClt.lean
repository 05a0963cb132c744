/-
LoanSteps: the row and its card: for every input the law answers true and its arguments read as before.
-/
import Derived.Test.YtelidogcomffkaaGreatDoorClb
import Derived.Test.YtelidogcomffkaaGreatDoorLSt
import Derived.Test.YtelidogcomffkaaGreatDoorCards
import Derived.Test.YtelidogcomffkaaGreatDoorTie
set_option linter.unusedSimpArgs false
set_option linter.unusedVariables false
set_option maxRecDepth 100000
namespace Go.Proofs.YtelidogcomffkaaGreatDoor.loanSteps
open Go Go.Sx Go.Deep Go.ChangeShapes Go.WideShapes Go.ChangeAt Go.RowKit
theorem walk {H:Type} {enc:TypeId×Value→H} (E:EnvT) (W:World) (base:Nat) (args:Array Value) (ds:List (DataW H)) (p:List MemPlace) (hG:GOk (@GL (@envT E)) W) (hv: ∀ (j:Nat) t v,Tryz.f6.params[j]? =some t→args[j]? =some v→Value.okWide Tryz.prog W .any base t v) (hA:DataW.TrodAll enc Tryz.prog W 0 (fun _=>true) true Tryz.f6.params.toList args.toList ds p):
  Calls Tryz.prog 6 args W fun e W'=>Below W.heap.size W W'∧e= .returned (.bool true):=by
 rw[Tryz.params6]at hv hA
 obtain⟨v0,d0,rfl,rfl,t0⟩:=trodAll_one hA
 obtain⟨cs0,rfl,hl0,h0⟩:=open_cells Tryz.underlying70 (ts:=[3,3,3,3,3,3,3,4,4,4,3,4,4,4,4,4,4,4,25,26,68,68]) (by kernel_rfl) (by kernel_rfl) (hv 0 _ _ rfl rfl)
 obtain⟨c0_0,c0_1,c0_2,c0_3,c0_4,c0_5,c0_6,c0_7,c0_8,c0_9,c0_10,c0_11,c0_12,c0_13,c0_14,c0_15,c0_16,c0_17,c0_18,c0_19,c0_20,c0_21,rfl⟩: ∃ c0_0 c0_1 c0_2 c0_3 c0_4 c0_5 c0_6 c0_7 c0_8 c0_9 c0_10 c0_11 c0_12 c0_13 c0_14 c0_15 c0_16 c0_17 c0_18 c0_19 c0_20 c0_21,cs0=[c0_0,c0_1,c0_2,c0_3,c0_4,c0_5,c0_6,c0_7,c0_8,c0_9,c0_10,c0_11,c0_12,c0_13,c0_14,c0_15,c0_16,c0_17,c0_18,c0_19,c0_20,c0_21]:=by
  match cs0,hl0 with
  |[c0_0,c0_1,c0_2,c0_3,c0_4,c0_5,c0_6,c0_7,c0_8,c0_9,c0_10,c0_11,c0_12,c0_13,c0_14,c0_15,c0_16,c0_17,c0_18,c0_19,c0_20,c0_21],_=>exact⟨c0_0,c0_1,c0_2,c0_3,c0_4,c0_5,c0_6,c0_7,c0_8,c0_9,c0_10,c0_11,c0_12,c0_13,c0_14,c0_15,c0_16,c0_17,c0_18,c0_19,c0_20,c0_21,rfl⟩
 obtain⟨m0,tr0⟩:=t0
 obtain⟨a0,rfl,i0⟩:=cell_int Tryz.underlying3 (h0 0 _ _ rfl rfl)
 obtain⟨a1,rfl,i1⟩:=cell_int Tryz.underlying3 (h0 1 _ _ rfl rfl)
 obtain⟨a2,rfl,i2⟩:=cell_int Tryz.underlying3 (h0 2 _ _ rfl rfl)
 obtain⟨a3,rfl,i3⟩:=cell_int Tryz.underlying3 (h0 3 _ _ rfl rfl)
 obtain⟨a4,rfl,i4⟩:=cell_int Tryz.underlying3 (h0 4 _ _ rfl rfl)
 obtain⟨a5,rfl,i5⟩:=cell_int Tryz.underlying3 (h0 5 _ _ rfl rfl)
 obtain⟨a6,rfl,i6⟩:=cell_int Tryz.underlying3 (h0 6 _ _ rfl rfl)
 obtain⟨a7,rfl⟩:=cell_bool Tryz.underlying4 (h0 7 _ _ rfl rfl)
 obtain⟨a8,rfl⟩:=cell_bool Tryz.underlying4 (h0 8 _ _ rfl rfl)
 obtain⟨a9,rfl⟩:=cell_bool Tryz.underlying4 (h0 9 _ _ rfl rfl)
 obtain⟨a10,rfl,i10⟩:=cell_int Tryz.underlying3 (h0 10 _ _ rfl rfl)
 obtain⟨_,_,s11⟩:=trod_field Tryz.underlying70 tr0 1 (k:=9) (ds:=[c0_11,c0_12,c0_13,c0_14,c0_15,c0_16,c0_17,c0_18,c0_19]) rfl (by kernel_rfl) rfl
 obtain⟨a12,rfl⟩:=cell_bool Tryz.underlying4 (h0 11 _ _ rfl rfl)
 obtain⟨a13,rfl⟩:=cell_bool Tryz.underlying4 (h0 12 _ _ rfl rfl)
 obtain⟨a14,rfl⟩:=cell_bool Tryz.underlying4 (h0 13 _ _ rfl rfl)
 obtain⟨a15,rfl⟩:=cell_bool Tryz.underlying4 (h0 14 _ _ rfl rfl)
 obtain⟨a16,rfl⟩:=cell_bool Tryz.underlying4 (h0 15 _ _ rfl rfl)
 obtain⟨a17,rfl⟩:=cell_bool Tryz.underlying4 (h0 16 _ _ rfl rfl)
 obtain⟨a18,rfl⟩:=cell_bool Tryz.underlying4 (h0 17 _ _ rfl rfl)
 obtain⟨_,_,s19⟩:=trod_field Tryz.underlying28 s11 1 (k:=1) (ds:=[c0_18]) rfl (by kernel_rfl) rfl
 obtain⟨n19,g19,e19,rfl,H19⟩:=cell_rules (B:=W.heap.size) (h0 18 _ _ rfl rfl) s19
 obtain⟨_,_,s20⟩:=trod_field Tryz.underlying28 s11 2 (k:=1) (ds:=[c0_19]) rfl (by kernel_rfl) rfl
 obtain⟨n20,g20,e20,rfl,H20⟩:=cell_ints (B:=W.heap.size) Tryz.underlying26 Tryz.underlying3 (by kernel_rfl) (h0 19 _ _ rfl rfl) s20
 obtain⟨a21,rfl,i21⟩:=cell_int Tryz.underlying68 (h0 20 _ _ rfl rfl)
 obtain⟨a22,rfl,i22⟩:=cell_int Tryz.underlying68 (h0 21 _ _ rfl rfl)
 exact scall_true (θ:=fun t=>if t=0 then e19 else e20) (args:=[.agg [I a0,I a1,I a2,I a3,I a4,I a5,I a6,B a7,B a8,B a9,I a10,B a12,B a13,B a14,B a15,B a16,B a17,B a18, .sl 0 n19, .sl 1 n20,N .u16 a21,N .u16 a22]]) (lSteps ⟨a0,a1,a2,a3,a4,a5,a6,a7,a8,a9,a10⟩ ⟨fun i=>[a12,a13,a14,a15,a16,a17,a18].getD i false,n19,fun i=>⟨g19 0 i,g19 1 i,g19 2 i,g19 3 i,g19 4 i,g19 5 i,g19 6 i,g19 7 i⟩,n20,g20⟩ i21 i22) (hp_two rfl rfl (hp_one H19 rules_any) (hp_one H20 ints_any)) hG
theorem contract (H:Type) (enc:TypeId×Value→H) (W:World) (base:Nat) (args:Array Value) (ds gs:List (DataW H)) (before:List MemPlace)
  (hval: ∀ (j:Nat) t v,Tryz.f6.params[j]? =some t→args[j]? =some v→Value.okWide Tryz.prog W .any base t v)
  (hW:DataW.Whole enc Tryz.prog Tryz.f6.params.toList Rows.loanStepsSpec.vars false W args.toList ds gs before) (hL:laidMetH Tryz.prog Rows.loanStepsRow.laid W):
  Calls Tryz.prog 6 args W fun e W'=> ∃ v,e= .returned v∧Rows.loanStepsSpec.post enc Tryz.prog Tryz.f6 false true false false W args v W':=
 law_contractT (f:=Tryz.f6) (b:=4) (by kernel_rfl) Tryz.underlying4 rfl (fun ds hl=>by
  rw[Tryz.params6]at hl
  match ds,hl with
  |[x0],_=>rfl) (by rw[Tryz.params6];intro t ht;simp only[List.mem_cons,List.not_mem_nil,or_false]at ht;subst ht;exact⟨by kernel_rfl,of_decide_eq_true (by kernel_rfl)⟩) walk W base args ds gs before hval hW hL
theorem laid_met (os:Os):laidMetH Tryz.prog Rows.loanStepsRow.laid ((laidWorldT os).forCall (fun _ _=>0) ⟨#[], #[.agg #[.int .i64 0, .int .i64 0, .int .i64 0, .int .i64 0, .int .i64 0, .int .i64 0, .int .i64 0, .bool false, .bool false, .bool false, .int .i64 0, .bool false, .bool false, .bool false, .bool false, .bool false, .bool false, .bool false, .slice none 0 0, .slice none 0 0, .int .u16 0, .int .u16 0]],[]⟩).memory:=
 laidMetH_of_parts (laidMet_of_run' 8 (by kernel_rfl) (by kernel_rfl)) (by kernel_rfl)
theorem reads (os:Os) {H:Type} (enc:TypeId×Value→H): ∃ places,DataW.whole enc Tryz.prog ((laidWorldT os).forCall (fun _ _=>0) ⟨#[], #[.agg #[.int .i64 0, .int .i64 0, .int .i64 0, .int .i64 0, .int .i64 0, .int .i64 0, .int .i64 0, .bool false, .bool false, .bool false, .int .i64 0, .bool false, .bool false, .bool false, .bool false, .bool false, .bool false, .bool false, .slice none 0 0, .slice none 0 0, .int .u16 0, .int .u16 0]],[]⟩).memory Tryz.f6.params.toList Rows.loanStepsSpec.vars false #[Value.agg #[.int .i64 0, .int .i64 0, .int .i64 0, .int .i64 0, .int .i64 0, .int .i64 0, .int .i64 0, .bool false, .bool false, .bool false, .int .i64 0, .bool false, .bool false, .bool false, .bool false, .bool false, .bool false, .bool false, .slice none 0 0, .slice none 0 0, .int .u16 0, .int .u16 0]].toList 8=some ([.agg [.agg [.lit (.int .i64 0), .lit (.int .i64 0), .lit (.int .i64 0), .lit (.int .i64 0), .lit (.int .i64 0), .lit (.int .i64 0), .lit (.int .i64 0), .lit (.bool false), .lit (.bool false), .lit (.bool false), .lit (.int .i64 0)], .agg [.agg [.lit (.bool false), .lit (.bool false), .lit (.bool false), .lit (.bool false), .lit (.bool false), .lit (.bool false), .lit (.bool false)], .nil, .nil], .lit (.int .u16 0), .lit (.int .u16 0)]],[],places):=
 ⟨[],by kernel_rfl⟩
theorem lifted (os:Os) (started:os.Started) (H:Type) (enc:TypeId×Value→H) (F:Stop.Interp):
  ReturnsInHanded {} Tryz.checked os 6 .any ((OpenSpec.ofChange Rows.loanStepsSpec).preRow enc Tryz.prog Tryz.f6 Rows.loanStepsRow.domain false Rows.loanStepsRow.laid) (((OpenSpec.ofChange Rows.loanStepsSpec).at F).post enc Tryz.prog Tryz.f6 false true false false):=by
 obtain⟨places,hx⟩:=reads os enc
 refine returnsInHanded_of_row (C:=Tryz.checked) (s:=OpenSpec.ofChange Rows.loanStepsSpec) own started (by kernel_rfl) Tryz.func6
  (witness_row_at (enc:=enc) (C:=Tryz.checked) false (laidWorldT os) #[.agg #[.int .i64 0, .int .i64 0, .int .i64 0, .int .i64 0, .int .i64 0, .int .i64 0, .int .i64 0, .bool false, .bool false, .bool false, .int .i64 0, .bool false, .bool false, .bool false, .bool false, .bool false, .bool false, .bool false, .slice none 0 0, .slice none 0 0, .int .u16 0, .int .u16 0]] rfl (by kernel_rfl) (by kernel_rfl) (by kernel_rfl)
   (OpenSpec.preRow_of_cond 8 hx (by kernel_rfl) (fun k hk=>by cases hk) (by kernel_rfl) (laid_met os))) ?_
 intro W base args ds gs before hval hW _ _ _ hL _ _
 exact contract H enc W base args ds gs before hval hW hL
theorem j1:(Rows.loanStepsRow.inPlace==Tryz.pinned.checked.prog.inPlace 6)=true:=by kernel_rfl
theorem j2:(Rows.loanStepsRow.unfollowed==Tryz.pinned.checked.prog.unfollowed 6)=true:=by kernel_rfl
theorem j3:(Rows.loanStepsRow.recurses==Tryz.pinned.checked.prog.recurses 6)=true:=by kernel_rfl
theorem j4:(Rows.loanStepsRow.named==Tryz.pinned.checked.prog.varsNamed 6)=true:=by kernel_rfl
theorem j5:(Rows.loanStepsRow.lifted==Tryz.pinned.checked.prog.liftsFinal)=true:=fLifts
theorem facts:joinedFacts Tryz.pinned.checked.prog 6 Tryz.f6 (OpenSpec.ofChange Rows.loanStepsSpec).bare Rows.loanStepsRow=true:=by
 unfold joinedFacts
 rw[j1,j2,j3,j4,j5,fMay,fHeard,fMaps,fOut]
 kernel_rfl
theorem funcNo:Tryz.pinned.checked.prog.funcNamed Rows.loanStepsRow.func=some 6:=by kernel_rfl
theorem goes:false=Rows.loanStepsRow.goesBy Tryz.pinned.checked.prog:=by kernel_rfl
theorem words:OpenClaim.wfByText (OpenSpec.ofChange Rows.loanStepsSpec) Rows.loanStepsRow=true:=by kernel_rfl
theorem said:Rows.LoanStepsSaid:=
 OpenClaim.holds_of_cond 6 Tryz.f6 rfl rfl rfl rfl rfl rfl rfl ⟨rfl,rfl,rfl,rfl,rfl⟩ rfl rfl rfl rfl rfl funcNo Tryz.func6 facts
  (of_decide_eq_true (by kernel_rfl)) (by unfold Func.isWrapper;first|(rw[if_pos (by decide+kernel)];kernel_rfl)|(rw[if_neg (by decide+kernel)];exact⟨rfl,rfl⟩))
  (fun os started H enc _ F=>by rw[OpenClaim.pre_eq_preRow];exact lifted os started H enc F)
theorem plain (f:FuncId) (fn:Func) (hf:Tryz.pinned.checked.prog.funcNamed "demurrage/demurragelaw22.LoanSteps" =some f) (hfn:Tryz.pinned.checked.prog.funcs[f]? =some fn):
  true=Tryz.pinned.checked.prog.looks []∧ ∀ (j:Nat) t,fn.params[j]? =some t→Tryz.pinned.checked.prog.wantsStandIn t=false:=by
 obtain rfl:f=6:=Option.some.inj ((show Tryz.prog.funcNamed "demurrage/demurragelaw22.LoanSteps" =some 6 by kernel_rfl).symm.trans hf) |>.symm
 obtain rfl:fn=Tryz.f6:=(Option.some.inj (Tryz.func6.symm.trans hfn)).symm
 refine⟨fLooks,fun j t ht=> ?_⟩
 rw[Tryz.params6]at ht
 have hm:=Array.mem_of_getElem? ht
 simp only[List.mem_toArray,List.mem_cons,List.not_mem_nil,or_false]at hm
 have s0:Tryz.prog.wantsStandIn 70=false:=(by kernel_rfl);subst hm
 exact s0
theorem card:Rows.LoanStepsCardSaid:=
 Claim7.holds_tied_plain_at .later [] _ _ _ _ said (fun _ h=>by cases h) words (fun _ h=>by cases h) loanSteps_row_tie rfl ⟨rfl,rfl⟩ mainIs rfl plain goes
end Go.Proofs.YtelidogcomffkaaGreatDoor.loanSteps
#print axioms Go.Proofs.YtelidogcomffkaaGreatDoor.loanSteps.card
