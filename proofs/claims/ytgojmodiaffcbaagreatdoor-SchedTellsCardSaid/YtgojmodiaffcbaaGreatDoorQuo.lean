import Derived.Test.YtgojmodiaffcbaaGreatDoorBig
import Derived.Test.YtgojmodiaffcbaaGreatDoorProg
import Derived.KernelRfl
import Derived.Laws.Externs
set_option linter.unusedSectionVars false
set_option linter.unusedSimpArgs false
set_option linter.unusedVariables false
set_option maxRecDepth 100000
namespace Go.Proofs.YtgojmodiaffcbaaGreatDoor
open Go Go.Sx
variable [Env]
noncomputable def demurrageref01_Quot_h0 (n1:Nat) (g2:Nat→Int) (n3:Nat) (g4:Nat→Int) (x1:Int) (n6_:Nat) (g1061:Nat→Int) (n8_:Nat) (g1081:Nat→Int) (n9_:Nat) (g1091:Nat→Int) (n10_:Nat) (g1101:Nat→Int):SC:=
 ⟨[⟨70,slo 65 [(2,.ptr 2 0),(3,.ptr 3 0),(4,.ptr 4 0),(5,.ptr 5 0),(6,.sl 6 n6_),(7,.ptr 7 0),(8,I x1)],[.code (bodyAt Tryz.f70 [1,1,1,0,1,0,0]),.inLoop (bodyAt Tryz.f70 [1,1,1,0,1,0,0]),.inBlock 0,.code (bodyAt Tryz.f70 [1,1,1,1])],{}⟩],[ri n1 g2,ri n3 g4,some (.box true [.sl 0 n1]),some (.box true [.sl 1 n3]),some (.box true [.sl 8 n8_]),some (.box true [.sl 9 n9_]),ro n6_ g1061,some (.box true [.sl 10 n10_]),ro n8_ g1081,ro n9_ g1091,ro n10_ g1101]⟩
theorem demurrageref01_Quot_0 {X:Cx} {res:SV} {new:List (Option Vw)} {n1:Nat} {g2:Nat→Int} {n3:Nat} {g4:Nat→Int} (hX:Fi X 70 [ri n1 g2,ri n3 g4] res new) (h0:(0:Int)≤((n1:Nat):Int)) (h1:((8:Nat):Int)*((n1:Nat):Int)≤281474976710656) (h2:(((n1:Nat):Int):Int)≤9223372036854775807) (h3:InR .i64 (((n1:Nat):Int)-1)) (k:Ok X (demurrageref01_Quot_h0 n1 g2 n3 g4 (((n1:Nat):Int)-1) (((n1:Nat):Int).toNat) (fun i=>0) 0 (fun _=>default) 0 (fun _=>default) 0 (fun _=>default))):
  Ok X (entry Tryz.prog 70 [.agg [.sl 0 n1],.agg [.sl 1 n3]] [ri n1 g2,ri n3 g4]):=
 Ok.cutM 32 [] [msk 65 [2,3,4,5,6,7,8]] [.old 0,.old 1,.old 2,.old 3,.old 4,.old 5,.old 6,.old 7,.nil 1,.nil 1,.nil 1] 2 hX.P hX.gl hX.n0 (by kernel_rfl) (by kernel_rfl) (by exact⟨fun _=>rfl,fun _=>rfl,rfl,rfl,rfl,rfl,fun _=>rfl,rfl,fun _=>rfl,fun _=>rfl,fun _=>rfl,trivial⟩) (ca (show(((n1:Nat):Int):Int)=((n1:Nat):Int)from rfl) (ca h0 (ca h1 (ca h2 (ca h3 na))))) k
noncomputable def demurrageref01_Quot_h1 (n1:Nat) (g2:Nat→Int) (n3:Nat) (g4:Nat→Int) (x1:Int) (x2:Int) (x3:Int) (n6_:Nat) (g1061:Nat→Int) (n8_:Nat) (g1081:Nat→Int) (n9_:Nat) (g1091:Nat→Int) (n13_:Nat) (g1131:Nat→Int):SC:=
 ⟨[⟨70,slo 65 [(2,.ptr 2 0),(3,.ptr 3 0),(4,.ptr 4 0),(5,.ptr 5 0),(6,.sl 6 n6_),(7,.ptr 7 0),(8,I x1),(9,I x2),(10,I x3)],[.code (bodyAt Tryz.f70 [1,1,1,0,1,0,0,1,0,0,1,1,1,0,0,0]),.inLoop (bodyAt Tryz.f70 [1,1,1,0,1,0,0,1,0,0,1,1,1,0,0,0]),.inBlock 2,.code (bodyAt Tryz.f70 [1,1,1,0,1,0,0,1,0,0,1,1,1,1]),.inBlock 1,.code (bodyAt Tryz.f70 [1,1,1,0,1,0,0,1,1]),.inLoop (bodyAt Tryz.f70 [1,1,1,0,1,0,0]),.inBlock 0,.code (bodyAt Tryz.f70 [1,1,1,1])],{}⟩],[ri n1 g2,ri n3 g4,some (.box true [.sl 0 n1]),some (.box true [.sl 1 n3]),some (.box true [.sl 8 n8_]),some (.box true [.sl 9 n9_]),ro n6_ g1061,some (.box true [.sl 13 n13_]),ro n8_ g1081,ro n9_ g1091,none,none,none,ro n13_ g1131]⟩
theorem demurrageref01_Quot_1 {X:Cx} {res:SV} {new:List (Option Vw)} {n1:Nat} {g2:Nat→Int} {n3:Nat} {g4:Nat→Int} {x1:Int} {n6_:Nat} {g1061:Nat→Int} {n8_:Nat} {g1081:Nat→Int} {n9_:Nat} {g1091:Nat→Int} {n10_:Nat} {g1101 q5002:Nat→Int} {n5003:Nat} {g5004:Nat→Int} (hX:Fi X 70 [ri n1 g2,ri n3 g4] res new) (h0:x1≥0) (h1:(0:Int)≤x1∧x1<((n1:Nat):Int)) (h2: ∀ k,k<(1+n10_)→q5002 k=if k<1 then(g2 x1.toNat)else(g1101 (k-1))) (h3:(1+n10_)*8≤140737488355328) (h4:S 64 [.sl 0 (1+n10_)] [ri (1+n10_) q5002] (.agg [.sl 1 n5003]) [ro n5003 g5004]) (k:Ok X (demurrageref01_Quot_h1 n1 g2 n3 g4 x1 0 10000 n6_ g1061 n8_ g1081 n9_ g1091 n5003 g5004)):
  Ok X (demurrageref01_Quot_h0 n1 g2 n3 g4 x1 n6_ g1061 n8_ g1081 n9_ g1091 n10_ g1101):=
 Ok.cutM 27 [tb,.draw 8 [] 0,.row (fun i=>[I (g2 x1.toNat)]),.row (fun i=>[I (q5002 i)]),.call [12] (.agg [.sl 1 n5003]) [ro n5003 g5004]] [msk 65 [2,3,4,5,6,7,8,9,10]] [.old 0,.old 1,.old 2,.old 3,.old 4,.old 5,.old 6,.old 7,.old 8,.old 9,.old 1010,.old 1011,.old 1012,.old 13] 2 hX.P hX.gl hX.n0 (by kernel_rfl) (by kernel_rfl) (by exact⟨fun _=>rfl,fun _=>rfl,rfl,rfl,rfl,rfl,fun _=>rfl,rfl,fun _=>rfl,fun _=>rfl,fun _=>rfl,trivial⟩) (ca (dt h0) (ca h1 (ca (re n1) (ca h1 (ca (show ∀ k,k<1→(fun i=>[I (g2 x1.toNat)]) k=[[I (g2 x1.toNat)]].getD k []from by intro k hk;match k,hk with|0,_=>rfl|k+1,hk=>omega) (ca (re n10_) (ca (re 1) (ca h3 (ca (show ∀ k,k<1+n10_→(fun i=>[I (q5002 i)]) k=if k<1 then(fun i=>[I (g2 x1.toNat)]) k else(fun i=>[I (g1101 i)]) (k-1)from fun k hk=>by
   have e0:=h2 k hk
   by_cases c:k<1
   ·rw[if_pos c]at e0⊢;simp only[e0]
   ·rw[if_neg c]at e0⊢;simp only[e0]) (ca h4 na)))))))))) k
theorem demurrageref01_Quot_2 {X:Cx} {n1:Nat} {g2:Nat→Int} {n3:Nat} {g4:Nat→Int} {x1:Int} {n6_:Nat} {g1061:Nat→Int} {n8_:Nat} {g1081:Nat→Int} {n9_:Nat} {g1091:Nat→Int} {n10_:Nat} {g1101:Nat→Int} {n5002:Nat} {g5003:Nat→Int} (hX:Fi X 70 [ri n1 g2,ri n3 g4] (.tup [.agg [.sl 2 n5002],.agg [.sl 3 n10_]]) [ro n5002 g5003,ro n10_ g1101]) (h0: ¬x1≥0) (h1:S 64 [.sl 0 n6_] [ri n6_ g1061] (.agg [.sl 1 n5002]) [ro n5002 g5003]):
  Ok X (demurrageref01_Quot_h0 n1 g2 n3 g4 x1 n6_ g1061 n8_ g1081 n9_ g1091 n10_ g1101):=
 Ok.fin 12 [fb,.draw 3 [2] 1,.call [6] (.agg [.sl 1 n5002]) [ro n5002 g5003]] [11,10] 12 hX (by kernel_rfl) rfl (ca (df h0) (ca h1 (ca (show(.agg [.sl 10 n10_]:SV)= .agg [.sl 10 n10_]from rfl) (ca (show(.agg [.sl 10 n10_]:SV)= .agg [.sl 10 n10_]from rfl) na))))
theorem demurrageref01_Quot_3 {X:Cx} {res:SV} {new:List (Option Vw)} {n1:Nat} {g2:Nat→Int} {n3:Nat} {g4:Nat→Int} {x1 x2 x3:Int} {n6_:Nat} {g1061:Nat→Int} {n8_:Nat} {g1081:Nat→Int} {n9_:Nat} {g1091:Nat→Int} {n13_:Nat} {g1131:Nat→Int} {n5004:Nat} {g5005:Nat→Int} {n5006:Nat} {g5007:Nat→Int} {r5008:Int} (hX:Fi X 70 [ri n1 g2,ri n3 g4] res new) (h0:InR .i64 (x3-x2)) (h1:(x3-x2)>1) (h2:InR .i64 (x2+x3)) (h3:(0:Int)≤(x2+x3)) (h4:InR .i64 ((x2+x3)/2)) (h5:S 37 [I ((x2+x3)/2)] [] (.agg [.sl 0 n5004]) [ro n5004 g5005]) (h6:S 36 [.agg [.sl 0 n3],.agg [.sl 1 n5004]] [ri n3 g4,ri n5004 g5005] (.agg [.sl 2 n5006]) [ro n5006 g5007]) (h7:S 38 [.agg [.sl 0 n5006],.agg [.sl 1 n13_]] [ri n5006 g5007,ri n13_ g1131] (I r5008) []) (h8:r5008≤0) (k:Ok X (demurrageref01_Quot_h1 n1 g2 n3 g4 x1 ((x2+x3)/2) x3 n6_ g1061 n8_ g1081 n9_ g1091 n13_ g1131)):
  Ok X (demurrageref01_Quot_h1 n1 g2 n3 g4 x1 x2 x3 n6_ g1061 n8_ g1081 n9_ g1091 n13_ g1131):=
 Ok.cutM 31 [tb,.draw 5 [] 0,.call [] (.agg [.sl 0 n5004]) [ro n5004 g5005],.call [1,14] (.agg [.sl 2 n5006]) [ro n5006 g5007],.call [15,13] (I r5008) [],tb] [msk 65 [2,3,4,5,6,7,8,9,10]] [.old 0,.old 1,.old 2,.old 3,.old 4,.old 5,.old 6,.old 7,.old 8,.old 9,.old 1010,.old 1011,.old 1012,.old 13] 2 hX.P hX.gl hX.n0 (by kernel_rfl) (by kernel_rfl) (by exact⟨fun _=>rfl,fun _=>rfl,rfl,rfl,rfl,rfl,fun _=>rfl,rfl,fun _=>rfl,fun _=>rfl,fun _=>rfl,trivial⟩) (ca h0 (ca (dt h1) (ca h2 (ca h3 (ca (show(0:Int)<2 from by decide) (ca h4 (ca h5 (ca h6 (ca h7 (ca (dt h8) na)))))))))) k
theorem demurrageref01_Quot_4 {X:Cx} {res:SV} {new:List (Option Vw)} {n1:Nat} {g2:Nat→Int} {n3:Nat} {g4:Nat→Int} {x1 x2 x3:Int} {n6_:Nat} {g1061:Nat→Int} {n8_:Nat} {g1081:Nat→Int} {n9_:Nat} {g1091:Nat→Int} {n13_:Nat} {g1131:Nat→Int} {n5004:Nat} {g5005:Nat→Int} {n5006:Nat} {g5007:Nat→Int} {r5008:Int} (hX:Fi X 70 [ri n1 g2,ri n3 g4] res new) (h0:InR .i64 (x3-x2)) (h1:(x3-x2)>1) (h2:InR .i64 (x2+x3)) (h3:(0:Int)≤(x2+x3)) (h4:InR .i64 ((x2+x3)/2)) (h5:S 37 [I ((x2+x3)/2)] [] (.agg [.sl 0 n5004]) [ro n5004 g5005]) (h6:S 36 [.agg [.sl 0 n3],.agg [.sl 1 n5004]] [ri n3 g4,ri n5004 g5005] (.agg [.sl 2 n5006]) [ro n5006 g5007]) (h7:S 38 [.agg [.sl 0 n5006],.agg [.sl 1 n13_]] [ri n5006 g5007,ri n13_ g1131] (I r5008) []) (h8: ¬r5008≤0) (k:Ok X (demurrageref01_Quot_h1 n1 g2 n3 g4 x1 x2 ((x2+x3)/2) n6_ g1061 n8_ g1081 n9_ g1091 n13_ g1131)):
  Ok X (demurrageref01_Quot_h1 n1 g2 n3 g4 x1 x2 x3 n6_ g1061 n8_ g1081 n9_ g1091 n13_ g1131):=
 Ok.cutM 31 [tb,.draw 5 [] 0,.call [] (.agg [.sl 0 n5004]) [ro n5004 g5005],.call [1,14] (.agg [.sl 2 n5006]) [ro n5006 g5007],.call [15,13] (I r5008) [],fb] [msk 65 [2,3,4,5,6,7,8,9,10]] [.old 0,.old 1,.old 2,.old 3,.old 4,.old 5,.old 6,.old 7,.old 8,.old 9,.old 1010,.old 1011,.old 1012,.old 13] 2 hX.P hX.gl hX.n0 (by kernel_rfl) (by kernel_rfl) (by exact⟨fun _=>rfl,fun _=>rfl,rfl,rfl,rfl,rfl,fun _=>rfl,rfl,fun _=>rfl,fun _=>rfl,fun _=>rfl,trivial⟩) (ca h0 (ca (dt h1) (ca h2 (ca h3 (ca (show(0:Int)<2 from by decide) (ca h4 (ca h5 (ca h6 (ca h7 (ca (df h8) na)))))))))) k
theorem demurrageref01_Quot_5 {X:Cx} {res:SV} {new:List (Option Vw)} {n1:Nat} {g2:Nat→Int} {n3:Nat} {g4:Nat→Int} {x1 x2 x3:Int} {n6_:Nat} {g1061:Nat→Int} {n8_:Nat} {g1081:Nat→Int} {n9_:Nat} {g1091:Nat→Int} {n13_:Nat} {g1131 q5004:Nat→Int} {n5005:Nat} {g5006:Nat→Int} {n5007:Nat} {g5008:Nat→Int} {n5009:Nat} {g5010:Nat→Int} (hX:Fi X 70 [ri n1 g2,ri n3 g4] res new) (h0:InR .i64 (x3-x2)) (h1: ¬(x3-x2)>1) (h2:(0:Int)≤x1∧x1<((n6_:Nat):Int)) (h3: ∀ k,k<n6_→q5004 k=if k=x1.toNat then x2 else(g1061 k)) (h4:S 37 [I x2] [] (.agg [.sl 0 n5005]) [ro n5005 g5006]) (h5:S 36 [.agg [.sl 0 n3],.agg [.sl 1 n5005]] [ri n3 g4,ri n5005 g5006] (.agg [.sl 2 n5007]) [ro n5007 g5008]) (h6:S 96 [.agg [.sl 0 n13_],.agg [.sl 1 n5007]] [ri n13_ g1131,ri n5007 g5008] (.agg [.sl 2 n5009]) [ro n5009 g5010]) (h7:InR .i64 (x1-1)) (k:Ok X (demurrageref01_Quot_h0 n1 g2 n3 g4 (x1-1) n6_ q5004 n8_ g1081 n9_ g1091 n5009 g5010)):
  Ok X (demurrageref01_Quot_h1 n1 g2 n3 g4 x1 x2 x3 n6_ g1061 n8_ g1081 n9_ g1091 n13_ g1131):=
 Ok.cutM 29 [fb,.row (fun i=>[I (q5004 i)]),.draw 5 [] 0,.call [] (.agg [.sl 0 n5005]) [ro n5005 g5006],.call [1,14] (.agg [.sl 2 n5007]) [ro n5007 g5008],.call [13,15] (.agg [.sl 2 n5009]) [ro n5009 g5010]] [msk 65 [2,3,4,5,6,7,8]] [.old 0,.old 1,.old 2,.old 3,.old 4,.old 5,.old 6,.old 7,.old 8,.old 9,.old 16] 2 hX.P hX.gl hX.n0 (by kernel_rfl) (by kernel_rfl) (by exact⟨fun _=>rfl,fun _=>rfl,rfl,rfl,rfl,rfl,fun _=>rfl,rfl,fun _=>rfl,fun _=>rfl,fun _=>rfl,trivial⟩) (ca h0 (ca (df h1) (ca h2 (ca (re n6_) (ca h2 (ca (show ∀ k,k<n6_→(fun i=>[I (q5004 i)]) k=if k=x1.toNat then putRow ((fun i=>[I (g1061 i)]) k) 0 [I x2]else(fun i=>[I (g1061 i)]) k from fun k hk=>by
   have e0:=h3 k hk
   by_cases c:k=x1.toNat
   ·rw[if_pos c]at e0⊢;simp only[e0];try rfl
   ·rw[if_neg c]at e0⊢;simp only[e0]) (ca h4 (ca h5 (ca h6 (ca h7 na)))))))))) k
theorem Quot_in {X:Cx} {a b j R:Nat} {F:Nat→Nat} {n8 n9:Nat} {g8 g9:Nat→Int} (hj:j<ln a) (hb:0<b) (hla:ln a≤500) (hlb:ln b≤500) (hR:R<b*10000) {res:SV} {new:List (Option Vw)} (hX:IsFin X Tryz.prog GL 70 [BR false a,BR false b] res new)
  (k:Ok X (demurrageref01_Quot_h0 (ln a) (dg a) (ln b) (dg b) ((j:Int)-1) (ln a) (fun k=>(((if k=j then R/b else F k):Nat):Int)) n8 g8 n9 g9 (ln (R%b)) (dg (R%b)))):
  ∀ (m lo hi:Nat),hi-lo≤m→lo<hi→hi≤10000→b*lo≤R→R<b*hi→
    Ok X (demurrageref01_Quot_h1 (ln a) (dg a) (ln b) (dg b) (j:Int) (lo:Int) (hi:Int) (ln a) (fun k=>((F k:Nat):Int)) n8 g8 n9 g9 (ln R) (dg R))
 |0,lo,hi,hm,h1,h2,h3,h4=>by omega
 |m+1,lo,hi,hm,h1,h2,h3,h4=>by
  have hlR:ln R≤ln b+1:=by
   rw[ln_le_iff,Nat.pow_succ]
   have:=lt_ln b
   omega
  have hsmall: ∀ x,x<10000→ln x≤1:=fun x hx=>ln_le_iff.2 (by simpa using hx)
  by_cases h5:1<hi-lo
  ·have e:((lo:Int)+(hi:Int))/2=(((lo+hi)/2:Nat):Int):=by omega
   have hlm:=hsmall ((lo+hi)/2) (by omega)
   have hlp:=ln_mul b ((lo+hi)/2)
   have c1:SCall Tryz.prog GL 37 [I (((lo:Int)+(hi:Int))/2)] [] (.agg [.sl 0 (ln ((lo+hi)/2))]) [BR true ((lo+hi)/2)]:=by rw[e];exact From (by omega)
   have c2:= @Prod _ b ((lo+hi)/2) (by omega) (by omega)
   have c3:= @Cmp _ (b*((lo+hi)/2)) R (by omega) (by omega)
   by_cases h6:b*((lo+hi)/2)≤R
   ·refine demurrageref01_Quot_3 hX (by simp only[InR];omega) (by omega) (by simp only[InR];omega) (by omega) (by simp only[InR];omega) c1 c2 c3 (by unfold cmpI;split<;>(try split)<;>omega) ?_
    rw[e]
    exact Quot_in hj hb hla hlb hR hX k m ((lo+hi)/2) hi (by omega) (by omega) h2 h6 h4
   ·refine demurrageref01_Quot_4 hX (by simp only[InR];omega) (by omega) (by simp only[InR];omega) (by omega) (by simp only[InR];omega) c1 c2 c3 (by unfold cmpI;split<;>(try split)<;>omega) ?_
    rw[e]
    exact Quot_in hj hb hla hlb hR hX k m lo ((lo+hi)/2) (by omega) (by omega) (by omega) h3 (by omega)
  ·have e1:hi=lo+1:=by omega
   have e2:R/b=lo:=by
    refine Nat.div_eq_of_lt_le ?_ ?_
    ·rw[Nat.mul_comm];exact h3
    ·rw[Nat.mul_comm,←e1];exact h4
   have e3:R-b*lo=R%b:=by
    have:=Nat.div_add_mod R b
    rw[e2]at this;omega
   have hlm:=hsmall lo (by omega)
   have hlp:=ln_mul b lo
   have c1:SCall Tryz.prog GL 37 [I (lo:Int)] [] (.agg [.sl 0 (ln lo)]) [BR true lo]:=From (by omega)
   have c2:= @Prod _ b lo (by omega) (by omega)
   have c3:= @Less _ R (b*lo) (by omega) h3
   rw[e3]at c3
   refine demurrageref01_Quot_5 (q5004:=fun k=>(((if k=j then R/b else F k):Nat):Int)) hX (by simp only[InR];omega) (by omega) (by omega) (fun k hk=> ?_) c1 c2 c3 (by simp only[InR];omega) k
   rw[e2,show(j:Int).toNat=j from rfl]
   split<;>rfl
theorem Quot_out {X:Cx} {a b:Nat} (hb:0<b) (hla:ln a≤500) (hlb:ln b≤500) {n8 n9:Nat} {g8 g9:Nat→Int}
  (hX:IsFin X Tryz.prog GL 70 [BR false a,BR false b] (.tup [.agg [.sl 2 (ln (a/b))],.agg [.sl 3 (ln (a%b))]]) [BR true (a/b),BR true (a%b)]):
  ∀ (i:Nat) (F:Nat→Nat),i≤ln a→(∀ k,i≤k→k<ln a→F k=dgN (a/b) k)→Ok X (demurrageref01_Quot_h0 (ln a) (dg a) (ln b) (dg b) ((i:Int)-1) (ln a) (fun k=>((F k:Nat):Int)) n8 g8 n9 g9 (ln (a/10000^i%b)) (dg (a/10000^i%b)))
 |0,F,hi,hF=>by
  rw[Nat.pow_zero,Nat.div_one]
  have h1:= @trim _ (ln a) F (fun k hk=>by rw[hF k (by omega) hk];exact dgN_lt _ _) (by omega)
  rw[vl_congr (fun k hk=>hF k (by omega) hk),vl_dg,mod_full (ln_mono (Nat.div_le_self a b))]at h1
  exact demurrageref01_Quot_2 hX (by omega) h1
 |j+1,F,hi,hF=>by
  obtain⟨q1,q2,q3⟩:=div_digit a b j hb
  have e:(((j+1:Nat):Int)-1)=(j:Int):=by omega
  rw[e]
  have hlr:ln (a/10000^(j+1)%b)≤ln b:=ln_mono (Nat.le_of_lt (Nat.mod_lt _ hb))
  have h1:= @trim _ (1+ln (a/10000^(j+1)%b)) (fun k=>if k<1 then dgN a j else dgN (a/10000^(j+1)%b) (k-1)) (fun k hk=>by split;exact dgN_lt _ _;exact dgN_lt _ _) (by omega)
  rw[vl_cons,vl_dg,mod_full (Nat.le_refl _),show dgN a j+10000*(a/10000^(j+1)%b)=a/10000^(j+1)%b*10000+dgN a j by omega]at h1
  refine demurrageref01_Quot_1 hX (by omega) (by omega) (fun k hk=> ?_) (by omega) h1 ?_
  ·rw[show(j:Int).toNat=j from rfl]
   split<;>rfl
  ·refine Quot_in (by omega) hb hla hlb q3 hX ?_ 10000 0 10000 (by omega) (by omega) (by omega) (by omega) q3
   rw[q1,q2]
   refine Quot_out hb hla hlb hX j _ (by omega) (fun k hk hk'=> ?_)
   by_cases h:k=j
   ·rw[if_pos h,h]
   ·rw[if_neg h];exact hF k (by omega) hk'
theorem Quot {a b:Nat} (hb:b≠0) (hla:ln a≤500) (hlb:ln b≤500):SCall Tryz.prog GL 70 [.agg [.sl 0 (ln a)],.agg [.sl 1 (ln b)]] [BR false a,BR false b] (.tup [.agg [.sl 2 (ln (a/b))],.agg [.sl 3 (ln (a%b))]]) [BR true (a/b),BR true (a%b)]:=by
 refine SCall.of (by kernel_rfl) rfl ⟨fun i=>rfl,fun i=>rfl,trivial⟩ rfl (fun X hX=> ?_)
 refine demurrageref01_Quot_0 hX (by omega) (by omega) (by omega) (by simp only[InR];omega) ?_
 have h:=Quot_out (n8:=0) (n9:=0) (g8:=fun _=>default) (g9:=fun _=>default) (by omega) hla hlb hX (ln a) (fun _=>0) (Nat.le_refl _) (fun k h1 h2=>by omega)
 rw[Nat.div_eq_of_lt (lt_ln a),Nat.zero_mod,ln_zero,show dg 0=fun _=>default from funext fun i=>dg_out (by rw[ln_zero];omega)]at h
 exact h
end Go.Proofs.YtgojmodiaffcbaaGreatDoor
