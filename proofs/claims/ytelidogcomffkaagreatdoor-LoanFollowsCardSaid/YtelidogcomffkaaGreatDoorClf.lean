/-
LoanFollows: the row and its card: for every input the law answers true and its arguments read as before.
-/
import Derived.Test.YtelidogcomffkaaGreatDoorClb
import Derived.Test.YtelidogcomffkaaGreatDoorLFo
import Derived.Test.YtelidogcomffkaaGreatDoorCards
import Derived.Test.YtelidogcomffkaaGreatDoorTie
set_option linter.unusedVariables false
set_option linter.unusedSimpArgs false
set_option maxRecDepth 100000
namespace Go.Proofs.YtelidogcomffkaaGreatDoor.loanFollows
open Go Go.Sx Go.Deep Go.ChangeShapes Go.WideShapes Go.ChangeAt Go.RowKit
theorem walk {H:Type} {enc:TypeId×Value→H} (E:EnvT) (W:World) (base:Nat) (args:Array Value) (ds:List (DataW H)) (p:List MemPlace) (hG:GOk (@GL (@envT E)) W) (hv: ∀ (j:Nat) t v,Tryz.f4.params[j]? =some t→args[j]? =some v→Value.okWide Tryz.prog W .any base t v) (hA:DataW.TrodAll enc Tryz.prog W 0 (fun _=>true) true Tryz.f4.params.toList args.toList ds p):
  Calls Tryz.prog 4 args W fun e W'=>Below W.heap.size W W'∧e= .returned (.bool true):=by
 rw[Tryz.params4]at hv hA
 obtain⟨v0,v1,d0,d1,p0,p1,rfl,rfl,rfl,t0,t1⟩:=trodAll_two hA
 obtain⟨cs0,rfl,hl0,h0⟩:=open_cells Tryz.underlying23 (ts:=[3,3,3,3,3,3,3,4,4,4,3]) (by kernel_rfl) (by kernel_rfl) (hv 0 _ _ rfl rfl)
 obtain⟨c0_0,c0_1,c0_2,c0_3,c0_4,c0_5,c0_6,c0_7,c0_8,c0_9,c0_10,rfl⟩: ∃ c0_0 c0_1 c0_2 c0_3 c0_4 c0_5 c0_6 c0_7 c0_8 c0_9 c0_10,cs0=[c0_0,c0_1,c0_2,c0_3,c0_4,c0_5,c0_6,c0_7,c0_8,c0_9,c0_10]:=by
  match cs0,hl0 with
  |[c0_0,c0_1,c0_2,c0_3,c0_4,c0_5,c0_6,c0_7,c0_8,c0_9,c0_10],_=>exact⟨c0_0,c0_1,c0_2,c0_3,c0_4,c0_5,c0_6,c0_7,c0_8,c0_9,c0_10,rfl⟩
 obtain⟨m0,tr0⟩:=t0
 obtain⟨a0,rfl,i0⟩:=cell_int Tryz.underlying3 (h0 0 _ _ rfl rfl)
 obtain⟨a1,rfl,i1⟩:=cell_int Tryz.underlying3 (h0 1 _ _ rfl rfl)
 obtain⟨a2,rfl,i2⟩:=cell_int Tryz.underlying3 (h0 2 _ _ rfl rfl)
 obtain⟨a3,rfl,i3⟩:=cell_int Tryz.underlying3 (h0 3 _ _ rfl rfl)
 obtain⟨a4,rfl,i4⟩:=cell_int Tryz.underlying3 (h0 4 _ _ rfl rfl)
 obtain⟨a5,rfl,i5⟩:=cell_int Tryz.underlying3 (h0 5 _ _ rfl rfl)
 obtain⟨a6,rfl,i6⟩:=cell_int Tryz.underlying3 (h0 6 _ _ rfl rfl)
 obtain⟨a7,rfl⟩:=cell_bool Tryz.underlying4 (h0 7 _ _ rfl rfl)
 obtain⟨a8,rfl⟩:=cell_bool Tryz.underlying4 (h0 8 _ _ rfl rfl)
 obtain⟨a9,rfl⟩:=cell_bool Tryz.underlying4 (h0 9 _ _ rfl rfl)
 obtain⟨a10,rfl,i10⟩:=cell_int Tryz.underlying3 (h0 10 _ _ rfl rfl)
 obtain⟨cs1,rfl,hl1,h1⟩:=open_cells Tryz.underlying28 (ts:=[4,4,4,4,4,4,4,25,26]) (by kernel_rfl) (by kernel_rfl) (hv 1 _ _ rfl rfl)
 obtain⟨c1_0,c1_1,c1_2,c1_3,c1_4,c1_5,c1_6,c1_7,c1_8,rfl⟩: ∃ c1_0 c1_1 c1_2 c1_3 c1_4 c1_5 c1_6 c1_7 c1_8,cs1=[c1_0,c1_1,c1_2,c1_3,c1_4,c1_5,c1_6,c1_7,c1_8]:=by
  match cs1,hl1 with
  |[c1_0,c1_1,c1_2,c1_3,c1_4,c1_5,c1_6,c1_7,c1_8],_=>exact⟨c1_0,c1_1,c1_2,c1_3,c1_4,c1_5,c1_6,c1_7,c1_8,rfl⟩
 obtain⟨m1,tr1⟩:=t1
 obtain⟨a11,rfl⟩:=cell_bool Tryz.underlying4 (h1 0 _ _ rfl rfl)
 obtain⟨a12,rfl⟩:=cell_bool Tryz.underlying4 (h1 1 _ _ rfl rfl)
 obtain⟨a13,rfl⟩:=cell_bool Tryz.underlying4 (h1 2 _ _ rfl rfl)
 obtain⟨a14,rfl⟩:=cell_bool Tryz.underlying4 (h1 3 _ _ rfl rfl)
 obtain⟨a15,rfl⟩:=cell_bool Tryz.underlying4 (h1 4 _ _ rfl rfl)
 obtain⟨a16,rfl⟩:=cell_bool Tryz.underlying4 (h1 5 _ _ rfl rfl)
 obtain⟨a17,rfl⟩:=cell_bool Tryz.underlying4 (h1 6 _ _ rfl rfl)
 obtain⟨_,_,s18⟩:=trod_field Tryz.underlying28 tr1 1 (k:=1) (ds:=[c1_7]) rfl (by kernel_rfl) rfl
 obtain⟨n18,g18,e18,rfl,H18⟩:=cell_rules (B:=W.heap.size) (h1 7 _ _ rfl rfl) s18
 obtain⟨_,_,s19⟩:=trod_field Tryz.underlying28 tr1 2 (k:=1) (ds:=[c1_8]) rfl (by kernel_rfl) rfl
 obtain⟨n19,g19,e19,rfl,H19⟩:=cell_ints (B:=W.heap.size) Tryz.underlying26 Tryz.underlying3 (by kernel_rfl) (h1 8 _ _ rfl rfl) s19
 exact scall_true (θ:=fun t=>if t=0 then e18 else e19) (args:=[.agg [I a0,I a1,I a2,I a3,I a4,I a5,I a6,B a7,B a8,B a9,I a10], .agg [B a11,B a12,B a13,B a14,B a15,B a16,B a17, .sl 0 n18, .sl 1 n19]]) (lFollows ⟨a0,a1,a2,a3,a4,a5,a6,a7,a8,a9,a10⟩ ⟨fun i=>[a11,a12,a13,a14,a15,a16,a17].getD i false,n18,fun i=>⟨g18 0 i,g18 1 i,g18 2 i,g18 3 i,g18 4 i,g18 5 i,g18 6 i,g18 7 i⟩,n19,g19⟩) (hp_two rfl rfl (hp_one H18 rules_any) (hp_one H19 ints_any)) hG
theorem contract (H:Type) (enc:TypeId×Value→H) (W:World) (base:Nat) (args:Array Value) (ds gs:List (DataW H)) (before:List MemPlace)
  (hval: ∀ (j:Nat) t v,Tryz.f4.params[j]? =some t→args[j]? =some v→Value.okWide Tryz.prog W .any base t v)
  (hW:DataW.Whole enc Tryz.prog Tryz.f4.params.toList Rows.loanFollowsSpec.vars false W args.toList ds gs before) (hL:laidMetH Tryz.prog Rows.loanFollowsRow.laid W):
  Calls Tryz.prog 4 args W fun e W'=> ∃ v,e= .returned v∧Rows.loanFollowsSpec.post enc Tryz.prog Tryz.f4 false true false false W args v W':=
 law_contractT (f:=Tryz.f4) (b:=4) (by kernel_rfl) Tryz.underlying4 rfl (fun ds hl=>by
  rw[Tryz.params4]at hl
  match ds,hl with
  |[x0,x1],_=>rfl) (by rw[Tryz.params4];intro t ht;simp only[List.mem_cons,List.not_mem_nil,or_false]at ht;rcases ht with rfl|rfl<;>exact⟨by kernel_rfl,of_decide_eq_true (by kernel_rfl)⟩) walk W base args ds gs before hval hW hL
theorem laid_met (os:Os):laidMetH Tryz.prog Rows.loanFollowsRow.laid ((laidWorldT os).forCall (fun _ _=>0) ⟨#[], #[.agg #[.int .i64 0, .int .i64 0, .int .i64 0, .int .i64 0, .int .i64 0, .int .i64 0, .int .i64 0, .bool false, .bool false, .bool false, .int .i64 0], .agg #[.bool false, .bool false, .bool false, .bool false, .bool false, .bool false, .bool false, .slice none 0 0, .slice none 0 0]],[]⟩).memory:=
 laidMetH_of_parts (laidMet_of_run' 8 (by kernel_rfl) (by kernel_rfl)) (by kernel_rfl)
theorem reads (os:Os) {H:Type} (enc:TypeId×Value→H): ∃ places,DataW.whole enc Tryz.prog ((laidWorldT os).forCall (fun _ _=>0) ⟨#[], #[.agg #[.int .i64 0, .int .i64 0, .int .i64 0, .int .i64 0, .int .i64 0, .int .i64 0, .int .i64 0, .bool false, .bool false, .bool false, .int .i64 0], .agg #[.bool false, .bool false, .bool false, .bool false, .bool false, .bool false, .bool false, .slice none 0 0, .slice none 0 0]],[]⟩).memory Tryz.f4.params.toList Rows.loanFollowsSpec.vars false #[Value.agg #[.int .i64 0, .int .i64 0, .int .i64 0, .int .i64 0, .int .i64 0, .int .i64 0, .int .i64 0, .bool false, .bool false, .bool false, .int .i64 0],Value.agg #[.bool false, .bool false, .bool false, .bool false, .bool false, .bool false, .bool false, .slice none 0 0, .slice none 0 0]].toList 8=some ([.agg [.lit (.int .i64 0), .lit (.int .i64 0), .lit (.int .i64 0), .lit (.int .i64 0), .lit (.int .i64 0), .lit (.int .i64 0), .lit (.int .i64 0), .lit (.bool false), .lit (.bool false), .lit (.bool false), .lit (.int .i64 0)], .agg [.agg [.lit (.bool false), .lit (.bool false), .lit (.bool false), .lit (.bool false), .lit (.bool false), .lit (.bool false), .lit (.bool false)], .nil, .nil]],[],places):=
 ⟨[],by kernel_rfl⟩
theorem lifted (os:Os) (started:os.Started) (H:Type) (enc:TypeId×Value→H) (F:Stop.Interp):
  ReturnsInHanded {} Tryz.checked os 4 .any ((OpenSpec.ofChange Rows.loanFollowsSpec).preRow enc Tryz.prog Tryz.f4 Rows.loanFollowsRow.domain false Rows.loanFollowsRow.laid) (((OpenSpec.ofChange Rows.loanFollowsSpec).at F).post enc Tryz.prog Tryz.f4 false true false false):=by
 obtain⟨places,hx⟩:=reads os enc
 refine returnsInHanded_of_row (C:=Tryz.checked) (s:=OpenSpec.ofChange Rows.loanFollowsSpec) own started (by kernel_rfl) Tryz.func4
  (witness_row_at (enc:=enc) (C:=Tryz.checked) false (laidWorldT os) #[.agg #[.int .i64 0, .int .i64 0, .int .i64 0, .int .i64 0, .int .i64 0, .int .i64 0, .int .i64 0, .bool false, .bool false, .bool false, .int .i64 0], .agg #[.bool false, .bool false, .bool false, .bool false, .bool false, .bool false, .bool false, .slice none 0 0, .slice none 0 0]] rfl (by kernel_rfl) (by kernel_rfl) (by kernel_rfl)
   (OpenSpec.preRow_of_cond 8 hx (by kernel_rfl) (fun k hk=>by cases hk) (by kernel_rfl) (laid_met os))) ?_
 intro W base args ds gs before hval hW _ _ _ hL _ _
 exact contract H enc W base args ds gs before hval hW hL
theorem j1:(Rows.loanFollowsRow.inPlace==Tryz.pinned.checked.prog.inPlace 4)=true:=by kernel_rfl
theorem j2:(Rows.loanFollowsRow.unfollowed==Tryz.pinned.checked.prog.unfollowed 4)=true:=by kernel_rfl
theorem j3:(Rows.loanFollowsRow.recurses==Tryz.pinned.checked.prog.recurses 4)=true:=by kernel_rfl
theorem j4:(Rows.loanFollowsRow.named==Tryz.pinned.checked.prog.varsNamed 4)=true:=by kernel_rfl
theorem j5:(Rows.loanFollowsRow.lifted==Tryz.pinned.checked.prog.liftsFinal)=true:=fLifts
theorem facts:joinedFacts Tryz.pinned.checked.prog 4 Tryz.f4 (OpenSpec.ofChange Rows.loanFollowsSpec).bare Rows.loanFollowsRow=true:=by
 unfold joinedFacts
 rw[j1,j2,j3,j4,j5,fMay,fHeard,fMaps,fOut]
 kernel_rfl
theorem funcNo:Tryz.pinned.checked.prog.funcNamed Rows.loanFollowsRow.func=some 4:=by kernel_rfl
theorem goes:false=Rows.loanFollowsRow.goesBy Tryz.pinned.checked.prog:=by kernel_rfl
theorem words:OpenClaim.wfByText (OpenSpec.ofChange Rows.loanFollowsSpec) Rows.loanFollowsRow=true:=by kernel_rfl
theorem said:Rows.LoanFollowsSaid:=
 OpenClaim.holds_of_cond 4 Tryz.f4 rfl rfl rfl rfl rfl rfl rfl ⟨rfl,rfl,rfl,rfl,rfl⟩ rfl rfl rfl rfl rfl funcNo Tryz.func4 facts
  (of_decide_eq_true (by kernel_rfl)) (by unfold Func.isWrapper;first|(rw[if_pos (by decide+kernel)];kernel_rfl)|(rw[if_neg (by decide+kernel)];exact⟨rfl,rfl⟩))
  (fun os started H enc _ F=>by rw[OpenClaim.pre_eq_preRow];exact lifted os started H enc F)
theorem plain (f:FuncId) (fn:Func) (hf:Tryz.pinned.checked.prog.funcNamed "demurrage/demurragelaw22.LoanFollows" =some f) (hfn:Tryz.pinned.checked.prog.funcs[f]? =some fn):
  true=Tryz.pinned.checked.prog.looks []∧ ∀ (j:Nat) t,fn.params[j]? =some t→Tryz.pinned.checked.prog.wantsStandIn t=false:=by
 obtain rfl:f=4:=Option.some.inj ((show Tryz.prog.funcNamed "demurrage/demurragelaw22.LoanFollows" =some 4 by kernel_rfl).symm.trans hf) |>.symm
 obtain rfl:fn=Tryz.f4:=(Option.some.inj (Tryz.func4.symm.trans hfn)).symm
 refine⟨fLooks,fun j t ht=> ?_⟩
 rw[Tryz.params4]at ht
 have hm:=Array.mem_of_getElem? ht
 simp only[List.mem_toArray,List.mem_cons,List.not_mem_nil,or_false]at hm
 have s0:Tryz.prog.wantsStandIn 23=false:=(by kernel_rfl);have s1:Tryz.prog.wantsStandIn 28=false:=(by kernel_rfl);rcases hm with rfl|rfl
 ·exact s0
 ·exact s1
theorem card:Rows.LoanFollowsCardSaid:=
 Claim7.holds_tied_plain_at .later [] _ _ _ _ said (fun _ h=>by cases h) words (fun _ h=>by cases h) loanFollows_row_tie rfl ⟨rfl,rfl⟩ mainIs rfl plain goes
end Go.Proofs.YtelidogcomffkaaGreatDoor.loanFollows
#print axioms Go.Proofs.YtelidogcomffkaaGreatDoor.loanFollows.card
