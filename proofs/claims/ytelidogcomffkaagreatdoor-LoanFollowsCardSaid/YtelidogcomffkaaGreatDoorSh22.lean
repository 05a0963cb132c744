/-
The document's example (chapter 22).
-/
import Derived.Test.YtelidogcomffkaaGreatDoorLn
import Derived.Test.YtelidogcomffkaaGreatDoorProg
import Derived.KernelRfl
set_option linter.unusedSectionVars false
set_option linter.unusedSimpArgs false
set_option linter.unusedVariables false
set_option maxRecDepth 100000
namespace Go.Proofs.YtelidogcomffkaaGreatDoor
open Go Go.Sx
variable [EnvT]
def d22 (i:Nat):Int:=[738945,738946,739038,739130,739221,739311].getD i 0
def p22 (i:Nat):Int×Int:=[(1,360),(23,90),(23,90),(91,360),(1,4)].getD i (0,0)
def w22 (i j:Nat):Int:=([[100000,14,20000,20014,80000],[80000,1022,20000,21022,60000],[60000,767,20000,20767,40000],[40000,506,20000,20506,20000],[20000,250,20000,20250,0]].getD i []).getD j 0
def tms22:Tms:=⟨100000,500,1,3,738945,739311,3,true,false,false,0⟩
def l22:Ln:=⟨tms22,6,d22,6,d22,5,fun i=>(p22 i).1,fun i=>(p22 i).2,false,739311,4,0,fun _=>0,100000,0,738945,0,0⟩
theorem cOf22 (k:Nat) (o v:Int) (ho:Ir o) (h:ofV o 500 (p22 k).1 (p22 k).2=(v,0)):S 122 [I o,I 500, .agg [I (p22 k).1,I (p22 k).2]] [] (.tup [I v,I 0]) []:=by
 have:=aOf (o:=o) (r:=500) (p22 k).1 (p22 k).2 ho (irT (by decide))
 rw[h]at this;exact this
theorem tb22_w {res:SV} {new:List (Option Vw)} (H:SMe Tryz.prog 140 (.agg []) "demurrage/table.number" 286∧SMe Tryz.prog 142 (.agg []) "demurrage/table.number" 287∧SAs Tryz.prog (.ifc 142 (.agg [])) 137 140 true (.tup [.agg [],B false])∧SAs Tryz.prog (.ifc 142 (.agg [])) 137 142 true (.tup [.agg [],B true])∧ ∃ q1:Nat→Int,(∀ k,k<2→q1 k=if k<1 then 100000 else 80000)∧ ∃ q2:Nat→Int,(∀ k,k<2→q2 k=if k<1 then 14 else 1022)∧ ∃ q3:Nat→Int,(∀ k,k<2→q3 k=if k<1 then 20000 else 20000)∧ ∃ q4:Nat→Int,(∀ k,k<2→q4 k=if k<1 then 20014 else 21022)∧ ∃ q5:Nat→Int,(∀ k,k<2→q5 k=if k<1 then 80000 else 60000)∧ ∃ q6:Nat→Int,(∀ k,k<3→q6 k=if k<2 then(q1 k)else 60000)∧ ∃ q7:Nat→Int,(∀ k,k<3→q7 k=if k<2 then(q2 k)else 767)∧ ∃ q8:Nat→Int,(∀ k,k<3→q8 k=if k<2 then(q3 k)else 20000)∧ ∃ q9:Nat→Int,(∀ k,k<3→q9 k=if k<2 then(q4 k)else 20767)∧ ∃ q10:Nat→Int,(∀ k,k<3→q10 k=if k<2 then(q5 k)else 40000)∧ ∃ q11:Nat→Int,(∀ k,k<4→q11 k=if k<3 then(q6 k)else 40000)∧ ∃ q12:Nat→Int,(∀ k,k<4→q12 k=if k<3 then(q7 k)else 506)∧ ∃ q13:Nat→Int,(∀ k,k<4→q13 k=if k<3 then(q8 k)else 20000)∧ ∃ q14:Nat→Int,(∀ k,k<4→q14 k=if k<3 then(q9 k)else 20506)∧ ∃ q15:Nat→Int,(∀ k,k<4→q15 k=if k<3 then(q10 k)else 20000)∧ ∃ q16:Nat→Int,(∀ k,k<5→q16 k=if k<4 then(q11 k)else 20000)∧ ∃ q17:Nat→Int,(∀ k,k<5→q17 k=if k<4 then(q12 k)else 250)∧ ∃ q18:Nat→Int,(∀ k,k<5→q18 k=if k<4 then(q13 k)else 20000)∧ ∃ q19:Nat→Int,(∀ k,k<5→q19 k=if k<4 then(q14 k)else 20250)∧ ∃ q20:Nat→Int,(∀ k,k<5→q20 k=if k<4 then(q15 k)else 0)∧((q19 4)>4611686018427387904→(((.tup [.val (.slice none 0 0),I 6]):SV)=res)∧sameHp [] new)∧(¬(q19 4)>4611686018427387904→(((.tup [.sl 1 5,I 0]):SV)=res)∧sameHp [some (.row true 65 5 5 (fun i=>[I (q16 i),I (q17 i),I (q18 i),I (q19 i),I (q20 i)]))] new)):
  S 44 [I 1,I 100000,I 500, .sl 0 5] [some (.row false 121 5 2 (fun i=>[I ((p22 i).1),I ((p22 i).2)]))] (res) new:=by
 refine SCall.st fun X hX=> ?_
 obtain⟨h0,h1,h2,h3,q1,h4,q2,h5,q3,h6,q4,h7,q5,h8,q6,h9,q7,h10,q8,h11,q9,h12,q10,h13,q11,h14,q12,h15,q13,h16,q14,h17,q15,h18,q16,h19,q17,h20,q18,h21,q19,h22,q20,h23,L44,K44⟩:=H
 refine hX.go [q_ (show ∀ k,k<3→(lrow [[.ifc 140 (.agg [])],[.ifc 142 (.agg [])],[.ifc 143 (.agg [])]]) k=[[.ifc 140 (.agg [])],[.ifc 142 (.agg [])],[.ifc 143 (.agg [])]].getD k []from by intro k hk;match k,hk with|0,_=>rfl|1,_=>rfl|2,_=>rfl|k+3,hk=>omega),i_,h_ [.row (lrow [[.ifc 140 (.agg [])],[.ifc 142 (.agg [])],[.ifc 143 (.agg [])]])],t_ rt,q_ (show(0:Int)≤0∧0<((3:Nat):Int)from by decide),q_ (re 3),q_ (show(0:Int)≤0∧0<((3:Nat):Int)from by decide),q_ h0,h_ [.ext (.fn (.func 286) [] [])],i_,f_ rf,q_ (show Ir 1 from by decide),t_ rt,q_ (show(0:Int)≤1∧1<((3:Nat):Int)from by decide),q_ (re 3),q_ (show(0:Int)≤1∧1<((3:Nat):Int)from by decide),q_ h1,h_ [.ext (.fn (.func 287) [] [])],i_,t_ rt,q_ h2,h_ [.ext (.tup [.agg [],B false])],f_ rf,q_ h3,h_ [.ext (.tup [.agg [],B true])],t_ rt,i_,i_,n_ 8 (f_ rf),t_ rt,q_ (show(0:Int)≤0∧0<((5:Nat):Int)from by decide),q_ (re 5),q_ (show(0:Int)≤0∧0<((5:Nat):Int)from by decide),q_ (show(0:Int)≤100000 from by decide),q_ (show(0:Int)<5 from by decide),q_ (show Ir 20000 from by decide),q_ (show Ir 4 from by decide),i_,f_ rf,i_,c_ [] (cOf22 0 100000 14 (irT (by decide)) (by kernel_rfl)),q_ (show Ir 20014 from by decide),q_ (show Ir 80000 from by decide),f_ rf,q_ (show ∀ k,k<1→(fun i=>[I 100000,I 14,I 20000,I 20014,I 80000]) k=[[I 100000,I 14,I 20000,I 20014,I 80000]].getD k []from by intro k hk;match k,hk with|0,_=>rfl|k+1,hk=>omega),q_ (re 1),q_ (show 1*40≤140737488355328 from by first|decide|omega|(constructor<;>omega)),q_ (show ∀ k,k<1→(fun i=>[I 100000,I 14,I 20000,I 20014,I 80000]) k=(fun i=>[I 100000,I 14,I 20000,I 20014,I 80000]) k from fun _ _=>rfl),q_ (show Ir 1 from by decide),h_ [.row (fun i=>[I 100000,I 14,I 20000,I 20014,I 80000]), .row (fun i=>[I 100000,I 14,I 20000,I 20014,I 80000])],t_ rt,q_ (show(0:Int)≤1∧1<((5:Nat):Int)from by decide),q_ (re 5),q_ (show(0:Int)≤1∧1<((5:Nat):Int)from by decide),q_ (show(0:Int)≤100000 from by decide),q_ (show(0:Int)<5 from by decide),q_ (show Ir 20000 from by decide),q_ (show Ir 4 from by decide),i_,f_ rf,i_,c_ [] (cOf22 1 80000 1022 (irT (by decide)) (by kernel_rfl)),q_ (show Ir 21022 from by decide),q_ (show Ir 60000 from by decide),f_ rf,q_ (show ∀ k,k<1→(fun i=>[I 80000,I 1022,I 20000,I 21022,I 60000]) k=[[I 80000,I 1022,I 20000,I 21022,I 60000]].getD k []from by intro k hk;match k,hk with|0,_=>rfl|k+1,hk=>omega),q_ (re 1),q_ (re 1),q_ (show(1+1)*40≤140737488355328 from by first|decide|omega|(constructor<;>omega)),q_ (show ∀ k,k<1+1→(fun i=>[I (q1 i),I (q2 i),I (q3 i),I (q4 i),I (q5 i)]) k=if k<1 then(fun i=>[I 100000,I 14,I 20000,I 20014,I 80000]) k else(fun i=>[I 80000,I 1022,I 20000,I 21022,I 60000]) (k-1)from fun k hk=>by
   have e0:=h4 k hk
   have e1:=h5 k hk
   have e2:=h6 k hk
   have e3:=h7 k hk
   have e4:=h8 k hk
   by_cases c:k<1
   ·rw[if_pos c]at e0 e1 e2 e3 e4⊢;simp only[e0,e1,e2,e3,e4]
   ·rw[if_neg c]at e0 e1 e2 e3 e4⊢;simp only[e0,e1,e2,e3,e4]),q_ (show Ir 2 from by decide),h_ [.row (fun i=>[I 80000,I 1022,I 20000,I 21022,I 60000]), .row (fun i=>[I (q1 i),I (q2 i),I (q3 i),I (q4 i),I (q5 i)])],t_ rt,q_ (show(0:Int)≤2∧2<((5:Nat):Int)from by decide),q_ (re 5),q_ (show(0:Int)≤2∧2<((5:Nat):Int)from by decide),q_ (show(0:Int)≤100000 from by decide),q_ (show(0:Int)<5 from by decide),q_ (show Ir 20000 from by decide),q_ (show Ir 4 from by decide),i_,f_ rf,i_,c_ [] (cOf22 2 60000 767 (irT (by decide)) (by kernel_rfl)),q_ (show Ir 20767 from by decide),q_ (show Ir 40000 from by decide),f_ rf,q_ (show ∀ k,k<1→(fun i=>[I 60000,I 767,I 20000,I 20767,I 40000]) k=[[I 60000,I 767,I 20000,I 20767,I 40000]].getD k []from by intro k hk;match k,hk with|0,_=>rfl|k+1,hk=>omega),q_ (re 1),q_ (re 2),q_ (show(2+1)*40≤140737488355328 from by first|decide|omega|(constructor<;>omega)),q_ (show ∀ k,k<2+1→(fun i=>[I (q6 i),I (q7 i),I (q8 i),I (q9 i),I (q10 i)]) k=if k<2 then(fun i=>[I (q1 i),I (q2 i),I (q3 i),I (q4 i),I (q5 i)]) k else(fun i=>[I 60000,I 767,I 20000,I 20767,I 40000]) (k-2)from fun k hk=>by
   have e0:=h9 k hk
   have e1:=h10 k hk
   have e2:=h11 k hk
   have e3:=h12 k hk
   have e4:=h13 k hk
   by_cases c:k<2
   ·rw[if_pos c]at e0 e1 e2 e3 e4⊢;simp only[e0,e1,e2,e3,e4]
   ·rw[if_neg c]at e0 e1 e2 e3 e4⊢;simp only[e0,e1,e2,e3,e4]),q_ (show Ir 3 from by decide),h_ [.row (fun i=>[I 60000,I 767,I 20000,I 20767,I 40000]), .row (fun i=>[I (q6 i),I (q7 i),I (q8 i),I (q9 i),I (q10 i)])],t_ rt,q_ (show(0:Int)≤3∧3<((5:Nat):Int)from by decide),q_ (re 5),q_ (show(0:Int)≤3∧3<((5:Nat):Int)from by decide),q_ (show(0:Int)≤100000 from by decide),q_ (show(0:Int)<5 from by decide),q_ (show Ir 20000 from by decide),q_ (show Ir 4 from by decide),i_,f_ rf,i_,c_ [] (cOf22 3 40000 506 (irT (by decide)) (by kernel_rfl)),q_ (show Ir 20506 from by decide),q_ (show Ir 20000 from by decide),f_ rf,q_ (show ∀ k,k<1→(fun i=>[I 40000,I 506,I 20000,I 20506,I 20000]) k=[[I 40000,I 506,I 20000,I 20506,I 20000]].getD k []from by intro k hk;match k,hk with|0,_=>rfl|k+1,hk=>omega),q_ (re 1),q_ (re 3),q_ (show(3+1)*40≤140737488355328 from by first|decide|omega|(constructor<;>omega)),q_ (show ∀ k,k<3+1→(fun i=>[I (q11 i),I (q12 i),I (q13 i),I (q14 i),I (q15 i)]) k=if k<3 then(fun i=>[I (q6 i),I (q7 i),I (q8 i),I (q9 i),I (q10 i)]) k else(fun i=>[I 40000,I 506,I 20000,I 20506,I 20000]) (k-3)from fun k hk=>by
   have e0:=h14 k hk
   have e1:=h15 k hk
   have e2:=h16 k hk
   have e3:=h17 k hk
   have e4:=h18 k hk
   by_cases c:k<3
   ·rw[if_pos c]at e0 e1 e2 e3 e4⊢;simp only[e0,e1,e2,e3,e4]
   ·rw[if_neg c]at e0 e1 e2 e3 e4⊢;simp only[e0,e1,e2,e3,e4]),q_ (show Ir 4 from by decide),h_ [.row (fun i=>[I 40000,I 506,I 20000,I 20506,I 20000]), .row (fun i=>[I (q11 i),I (q12 i),I (q13 i),I (q14 i),I (q15 i)])],t_ rt,q_ (show(0:Int)≤4∧4<((5:Nat):Int)from by decide),q_ (re 5),q_ (show(0:Int)≤4∧4<((5:Nat):Int)from by decide),q_ (show(0:Int)≤100000 from by decide),q_ (show(0:Int)<5 from by decide),q_ (show Ir 20000 from by decide),q_ (show Ir 4 from by decide),i_,t_ rt,i_,c_ [] (cOf22 4 20000 250 (irT (by decide)) (by kernel_rfl)),q_ (show Ir 20250 from by decide),q_ (show Ir 0 from by decide),f_ rf,q_ (show ∀ k,k<1→(fun i=>[I 20000,I 250,I 20000,I 20250,I 0]) k=[[I 20000,I 250,I 20000,I 20250,I 0]].getD k []from by intro k hk;match k,hk with|0,_=>rfl|k+1,hk=>omega),q_ (re 1),q_ (re 4),q_ (show(4+1)*40≤140737488355328 from by first|decide|omega|(constructor<;>omega)),q_ (show ∀ k,k<4+1→(fun i=>[I (q16 i),I (q17 i),I (q18 i),I (q19 i),I (q20 i)]) k=if k<4 then(fun i=>[I (q11 i),I (q12 i),I (q13 i),I (q14 i),I (q15 i)]) k else(fun i=>[I 20000,I 250,I 20000,I 20250,I 0]) (k-4)from fun k hk=>by
   have e0:=h19 k hk
   have e1:=h20 k hk
   have e2:=h21 k hk
   have e3:=h22 k hk
   have e4:=h23 k hk
   by_cases c:k<4
   ·rw[if_pos c]at e0 e1 e2 e3 e4⊢;simp only[e0,e1,e2,e3,e4]
   ·rw[if_neg c]at e0 e1 e2 e3 e4⊢;simp only[e0,e1,e2,e3,e4]),q_ (show Ir 5 from by decide),h_ [.row (fun i=>[I 20000,I 250,I 20000,I 20250,I 0]), .row (fun i=>[I (q16 i),I (q17 i),I (q18 i),I (q19 i),I (q20 i)])],f_ rf,q_ (show Ir 4 from by decide),q_ (show(0:Int)≤4∧4<((5:Nat):Int)from by decide),q_ (re 5),q_ (show(0:Int)≤4∧4<((5:Nat):Int)from by decide),q_ (show(0:Int)≤4∧4<((5:Nat):Int)from by decide)] ?_
 by_cases h24:(q19 4)>4611686018427387904
 ·have HE:=L44 h24
  obtain⟨HE,HN⟩:=HE
  exact((hX.to HE.symm).same HN).e [t_ (dt h24)]
 ·have HE:=K44 h24
  obtain⟨HE,HN⟩:=HE
  exact((hX.to HE.symm).same HN).e [f_ (df h24)] [41]
theorem tb22:S 44 [I 1,I 100000,I 500, .sl 0 5] [some (.row false 121 5 2 (fun i=>[I (p22 i).1,I (p22 i).2]))] (.tup [.sl 1 5,I 0]) [some (.row true 65 5 5 (fun i=>[I (w22 i 0),I (w22 i 1),I (w22 i 2),I (w22 i 3),I (w22 i 4)]))]:=
 tb22_w ⟨fun _ _=>by kernel_rfl,fun _ _=>by kernel_rfl,fun _ _=>by kernel_rfl,fun _ _=>by kernel_rfl,fun k=>w22 k 0,by decide,fun k=>w22 k 1,by decide,fun k=>w22 k 2,by decide,fun k=>w22 k 3,by decide,fun k=>w22 k 4,by decide,
  fun k=>w22 k 0,by decide,fun k=>w22 k 1,by decide,fun k=>w22 k 2,by decide,fun k=>w22 k 3,by decide,fun k=>w22 k 4,by decide,fun k=>w22 k 0,by decide,fun k=>w22 k 1,by decide,fun k=>w22 k 2,by decide,fun k=>w22 k 3,by decide,fun k=>w22 k 4,by decide,
  fun k=>w22 k 0,by decide,fun k=>w22 k 1,by decide,fun k=>w22 k 2,by decide,fun k=>w22 k 3,by decide,fun k=>w22 k 4,by decide,fun c=>absurd c (by decide),fun _=>⟨rfl,sameHp.refl _⟩⟩
theorem sSh22:S 31 [.agg [I 100000,I 500,I 1,I 3,I 738945,I 739311,I 3,B true,B false,B false,I 0], .agg [B false,B false,B false,B false,B false,B false,B false, .val (.slice none 0 0), .val (.slice none 0 0)]] [] (.tup [.agg [.sl 0 6, .sl 1 6, .sl 2 5,B false,I 739311,I 4, .sl 3 0],I 0]) [ro 6 d22,ro 6 d22,some (.row true 121 5 2 (fun i=>[I (p22 i).1,I (p22 i).2])),ro 0 (fun i=>0)]:=by
 have h:=sOfN tms22 (fun _=>of_decide_eq_true (by kernel_rfl))
 have e1:schE tms22 cal0=0:=by kernel_rfl
 have e2:plN tms22 cal0=6:=by kernel_rfl
 have e3:plB tms22 cal0=false:=by kernel_rfl
 have e4:plE tms22 cal0=739311:=by kernel_rfl
 have e5:plF tms22 cal0=4:=by kernel_rfl
 have e6:plK tms22 cal0=0:=by kernel_rfl
 unfold plV ratV at h
 rw[e1,e2,e3,e4,e5,e6]at h
 refine SCall.same h (sameHp.refl _) ⟨⟨rfl,rfl,rfl,rfl,fun i hi=> ?_⟩,⟨rfl,rfl,rfl,rfl,fun i hi=> ?_⟩,⟨rfl,rfl,rfl,rfl,fun i hi=> ?_⟩,⟨rfl,rfl,rfl,rfl,fun i hi=>absurd hi (Nat.not_lt_zero _)⟩,trivial⟩
 ·match i,hi with|0,_=>(show _=_;kernel_rfl)|1,_=>(show _=_;kernel_rfl)|2,_=>(show _=_;kernel_rfl)|3,_=>(show _=_;kernel_rfl)|4,_=>(show _=_;kernel_rfl)|5,_=>(show _=_;kernel_rfl)|i+6,hi=>omega
 ·match i,hi with|0,_=>(show _=_;kernel_rfl)|1,_=>(show _=_;kernel_rfl)|2,_=>(show _=_;kernel_rfl)|3,_=>(show _=_;kernel_rfl)|4,_=>(show _=_;kernel_rfl)|5,_=>(show _=_;kernel_rfl)|i+6,hi=>omega
 ·match i,hi with|0,_=>(show _=_;kernel_rfl)|1,_=>(show _=_;kernel_rfl)|2,_=>(show _=_;kernel_rfl)|3,_=>(show _=_;kernel_rfl)|4,_=>(show _=_;kernel_rfl)|i+5,hi=>omega
theorem ow22:S 19 [lnL l22,I 739035] (lnH l22) (.tup [I 1250,I 0]) []:=by
 have h:=lOwed l22 739035 (by decide) (irT (by decide)) (irT (by decide))
 rw[show owV l22 739035=1250 by kernel_rfl,show goE 739035=0 by kernel_rfl]at h;exact h
theorem qu22:S 21 [lnL l22,I 739035] (lnH l22) (.tup [I 101250,I 0]) []:=by
 have h:=lQuote l22 739035 (by decide) (irT (by decide)) (irT (by decide))
 rw[show quV l22 739035=101250 by kernel_rfl,show goE 739035=0 by kernel_rfl]at h;exact h
theorem go22:S 17 [lnL l22,I 0] (lnH l22) (.tup [lnL l22,I 3]) []:=by
 have h:=lGo l22 0 (by decide) (irT (by decide)) (irT (by decide))
 rw[show goL l22 0=l22 by kernel_rfl,show goE 0=3 by kernel_rfl]at h;exact h
theorem py22 (n m e a b c op du fr ba it:Int) (h0:PyOk l22 n m) (h1:pyL l22 n m=Ln.w l22 op du fr ba it) (h2:pyE l22 n m=e) (h3:pyA l22 n m=a) (h4:pyB l22 n m=b) (h5:pyC l22 n m=c):
  S 15 [lnL l22,I n,I m] (lnH l22) (.tup [lnL (Ln.w l22 op du fr ba it), .agg [I e,I a,I b,I c]]) []:=by
 have h:=lPay l22 n m (by decide) (irT (by decide)) (irT (by decide)) h0
 rw[h1,h2,h3,h4,h5]at h;exact h
theorem py22_a:S 15 [lnL l22,I 739035,I 101000] (lnH l22) (.tup [lnL (Ln.w l22 250 0 739035 99750 1250), .agg [I 0,I 1250,I 99750,I 0]]) []:=
 py22 739035 101000 0 1250 99750 0 250 0 739035 99750 1250 (fun _=>by
  rw[show(seS l22 739035).1=1250 by kernel_rfl]
  exact⟨irT (by decide),irT (by decide),irT (by decide),irT (by decide),irT (by decide),irT (by decide)⟩) (by kernel_rfl) (by kernel_rfl) (by kernel_rfl) (by kernel_rfl) (by kernel_rfl)
theorem py22_b:S 15 [lnL l22,I 738944,I 1] (lnH l22) (.tup [lnL l22, .agg [I 4,I 0,I 0,I 0]]) []:=
 py22 738944 1 4 0 0 0 100000 0 738945 0 0 (fun h=>absurd h (by decide)) (by kernel_rfl) (by kernel_rfl) (by kernel_rfl) (by kernel_rfl) (by kernel_rfl)
theorem py22_c:S 15 [lnL l22,I 738945,I (-1)] (lnH l22) (.tup [lnL l22, .agg [I 2,I 0,I 0,I 0]]) []:=
 py22 738945 (-1) 2 0 0 0 100000 0 738945 0 0 (fun h=>absurd h (by decide)) (by kernel_rfl) (by kernel_rfl) (by kernel_rfl) (by kernel_rfl) (by kernel_rfl)
theorem sh22_w (H:(decide ((5:Int)≥4))=true):
  S 10 [] [] (B true) []:=by
 refine SCall.st fun X hX=> ?_
 have HE:=H
 exact(hX.to (congrArg B HE).symm).e [i_,i_,c_ [] sSh22,f_ rf,q_ (show(0:Int)≤0∧0<((6:Nat):Int)from by decide),q_ (re 6),q_ (show(0:Int)≤0∧0<((6:Nat):Int)from by decide),d_ 8,c_ [4,5,6,7] ow22,c_ [4,5,6,7] qu22,c_ [4,5,6,7] py22_a,c_ [4,5,6,7] py22_b,c_ [4,5,6,7] py22_c,c_ [4,5,6,7] go22,i_,c_ [6] tb22,n_ 50 (t_ rt)]
theorem shown22:S 10 [] [] (B true) []:=sh22_w (by decide)
end Go.Proofs.YtelidogcomffkaaGreatDoor
