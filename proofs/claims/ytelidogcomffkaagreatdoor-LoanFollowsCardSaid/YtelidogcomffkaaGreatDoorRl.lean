/-
Days rolled (chapter 14), of both.
-/
import Derived.Test.YtelidogcomffkaaGreatDoorCa
import Derived.Test.YtelidogcomffkaaGreatDoorProg
import Derived.KernelRfl
set_option linter.unusedSectionVars false
set_option linter.unusedSimpArgs false
set_option linter.unusedVariables false
set_option maxRecDepth 100000
namespace Go.Proofs.YtelidogcomffkaaGreatDoor
open Go Go.Sx
variable [Env]
def NDay (n:Int):Prop:= -1000000000000000≤n∧n≤1000000000000000
theorem NDay.of {n:Int} (h:isDay n=true):NDay n:=by have:=isDay_iff.1 h;unfold NDay;omega
noncomputable def frS (C:Cl) (n b:Int):Nat→Nat→Int×Int
 |0,_=>(0,8)
 |f+1,i=>if isDay (n+(i:Int)*b)=false then(0,3)else if bizB C (n+(i:Int)*b)=true then(n+(i:Int)*b,0)else frS C n b f (i+1)
noncomputable def frV (C:Cl) (n b:Int):Int×Int:=frS C n b 61 0
def smB (n m:Int):Bool:=(cY n==cY m)&&(cM n==cM m)
noncomputable def toV (C:Cl) (n k:Int):Int×Int:=
 if k<0∨k>4 then(0,1)else if k=0 then(if isDay n=false then(0,3)else(n,0))
 else if k≤2 then(if k=2∧(frV C n 1).2=0∧smB n (frV C n 1).1=false then frV C n (-1)else frV C n 1)
 else(if k=4∧(frV C n (-1)).2=0∧smB n (frV C n (-1)).1=false then frV C n 1 else frV C n (-1))
theorem biz_no {C:Cl} {n:Int} (h:isDay n=false):bizB C n=false:=by unfold bizB;rw[h,Bool.false_and]
theorem biz_day {C:Cl} {n:Int} (h:bizB C n=true):isDay n=true:=by
 cases hd:isDay n
 ·rw[biz_no hd]at h;cases h
 ·rfl
noncomputable def rollFrom_h0 (C:Cl) (b:Int) (a1:Int) (x1:Int):SC:=
 ⟨[⟨133,slo 33 [(1,I a1),(2, .ptr 2 0),(6,I x1)],[.code (bodyAt Tryz.f133 [1,0,1,0,0]), .inLoop (bodyAt Tryz.f133 [1,0,1,0,0]), .inBlock 0, .code (bodyAt Tryz.f133 [1,1])],{}⟩],[some (.row false 109 C.nr 8 (fun i=>[I ((C.R i).kind),I ((C.R i).mon),I ((C.R i).day),I ((C.R i).k),I ((C.R i).off),I ((C.R i).sh),I ((C.R i).fr),I ((C.R i).to)])),some (.row false 3 C.nd 1 (fun i=>[I (C.D i)])),some (.box true [B (C.off 0),B (C.off 1),B (C.off 2),B (C.off 3),B (C.off 4),B (C.off 5),B (C.off 6), .sl 0 C.nr, .sl 1 C.nd,I b])]⟩
theorem rollFrom_w0 {X:Cx} {C:Cl} {b a1:Int} {res:SV} (hX:Fi X 133 (calH C) (res) []) (H:Ok X (rollFrom_h0 C b a1 0)):
  Ok X (entry Tryz.prog 133 [.agg [B (C.off 0),B (C.off 1),B (C.off 2),B (C.off 3),B (C.off 4),B (C.off 5),B (C.off 6), .sl 0 C.nr, .sl 1 C.nd,I b],I a1] (calH C)):=by
 have k:=H
 exact hX.h 13 [] (oldM 3) k
theorem rollFrom_w1 {X:Cx} {C:Cl} {b a1 x1:Int} {res:SV} (hX:Fi X 133 (calH C) (res) []) (H:(x1≤60→Ir (x1*b)∧Ir (a1+(x1*b))∧((cE (a1+(x1*b)))≠0→((.tup [I 0,I (cE (a1+(x1*b)))]):SV)=res)∧((cE (a1+(x1*b)))=0→CalOk C∧((bizB C (a1+(x1*b)))=true→((.tup [I (a1+(x1*b)),I 0]):SV)=res)∧((bizB C (a1+(x1*b)))=false→Ir (x1+1)∧Ok X (rollFrom_h0 C b a1 (x1+1)))))∧(¬x1≤60→((.tup [I 0,I 8]):SV)=res)):
  Ok X (rollFrom_h0 C b a1 x1):=by
 obtain⟨L0,K0⟩:=H
 by_cases h0:x1≤60
 ·obtain⟨h1,h2,L3,K3⟩:=L0 h0
  refine hX.go [t_ (dt h0),q_ h1,q_ h2,c_ [] (cOfT (a1+(x1*b)))] ?_
  by_cases h3:(cE (a1+(x1*b)))=0
  ·obtain⟨h4,L5,K5⟩:=K3 h3
   refine hX.go [f_ (bne_eq_false_iff_eq.2 h3),c_ [0,1] (show S 166 [.agg [B (C.off 0),B (C.off 1),B (C.off 2),B (C.off 3),B (C.off 4),B (C.off 5),B (C.off 6), .sl 0 C.nr, .sl 1 C.nd],I (a1+(x1*b))] (calH C) (B (bizB C (a1+(x1*b)))) []from calIs h4)] ?_
   rcases bcase (bizB C (a1+(x1*b)))with h5|h5
   ·have HE:=L5 h5
    exact(hX.to HE.symm).e [t_ h5]
   ·obtain⟨h6,k⟩:=K5 h5
    exact hX.h 9 [f_ h5,q_ h6] (oldM 3) k
  ·have HE:=L3 h3
   exact(hX.to HE.symm).e [t_ (bne_iff_ne.2 h3)]
 ·have HE:=K0 h0
  exact(hX.to HE.symm).e [f_ (df h0)]
noncomputable def refStep_h0 (C:Cl) (a1:Int) (b:Int) (b1:Bool) (x2:Int):SC:=
 ⟨[⟨71,slo 40 [(1,I a1),(2,I b),(3, .ptr 2 0),(9,B b1),(10,I x2)],[.code (bodyAt Tryz.f71 [1,1,1,1,0,1,0,0]), .inLoop (bodyAt Tryz.f71 [1,1,1,1,0,1,0,0]), .inBlock 0, .code (bodyAt Tryz.f71 [1,1,1,1,1])],{}⟩],[some (.row false 109 C.nr 8 (fun i=>[I ((C.R i).kind),I ((C.R i).mon),I ((C.R i).day),I ((C.R i).k),I ((C.R i).off),I ((C.R i).sh),I ((C.R i).fr),I ((C.R i).to)])),some (.row false 3 C.nd 1 (fun i=>[I (C.D i)])),some (.box true [B (C.off 0),B (C.off 1),B (C.off 2),B (C.off 3),B (C.off 4),B (C.off 5),B (C.off 6), .sl 0 C.nr, .sl 1 C.nd])]⟩
theorem refStep_w0 {X:Cx} {C:Cl} {a1 b:Int} {res:SV} (hX:Fi X 71 (calH C) (res) []) (H:((isDay a1)=false→((.tup [I 0,I 3]):SV)=res)∧((isDay a1)=true→Ok X (refStep_h0 C a1 b false 0))):
  Ok X (entry Tryz.prog 71 [.agg [B (C.off 0),B (C.off 1),B (C.off 2),B (C.off 3),B (C.off 4),B (C.off 5),B (C.off 6), .sl 0 C.nr, .sl 1 C.nd],I a1,I b] (calH C)):=by
 obtain⟨L0,K0⟩:=H
 refine hX.go [c_ [] (rDay a1)] ?_
 rcases bcase (isDay a1)with h0|h0
 ·have k:=K0 h0
  exact hX.h 13 [f_ (nf h0)] (oldM 3) k
 ·have HE:=L0 h0
  exact(hX.to HE.symm).e [t_ (nt h0)]
theorem refStep_w1 {X:Cx} {C:Cl} {a1 b:Int} {b1:Bool} {x2:Int} {res:SV} (hX:Fi X 71 (calH C) (res) []) (H:(x2≤60→Ir (x2*b)∧Ir (a1+(x2*b))∧CalOk C∧((bizB C (a1+(x2*b)))=true→((.tup [I (a1+(x2*b)),I 0]):SV)=res)∧((bizB C (a1+(x2*b)))=false→(b1=true→Ir (x2+1)∧Ok X (refStep_h0 C a1 b true (x2+1)))∧(b1=false→Ir (x2+1)∧Ok X (refStep_h0 C a1 b (!(isDay (a1+(x2*b)))) (x2+1)))))∧(¬x2≤60→(b1=true→((.tup [I 0,I 3]):SV)=res)∧(b1=false→((.tup [I 0,I 8]):SV)=res))):
  Ok X (refStep_h0 C a1 b b1 x2):=by
 obtain⟨L0,K0⟩:=H
 by_cases h0:x2≤60
 ·obtain⟨h1,h2,h3,L4,K4⟩:=L0 h0
  refine hX.go [t_ (dt h0),q_ h1,q_ h2,c_ [0,1] (show S 97 [.agg [B (C.off 0),B (C.off 1),B (C.off 2),B (C.off 3),B (C.off 4),B (C.off 5),B (C.off 6), .sl 0 C.nr, .sl 1 C.nd],I (a1+(x2*b))] (calH C) (B (bizB C (a1+(x2*b)))) []from refIs h3)] ?_
  rcases bcase (bizB C (a1+(x2*b)))with h4|h4
  ·have HE:=L4 h4
   exact(hX.to HE.symm).e [t_ h4]
  ·obtain⟨L5,K5⟩:=K4 h4
   refine hX.go [f_ h4,c_ [] (rDay (a1+(x2*b)))] ?_
   rcases bcase b1 with h5|h5
   ·obtain⟨h6,k⟩:=L5 h5
    exact hX.h 12 [n_ 3 (t_ h5),q_ h6] (oldM 3) k
   ·obtain⟨h6,k⟩:=K5 h5
    exact hX.h 12 [n_ 3 (f_ h5),q_ h6] (oldM 3) k
 ·obtain⟨L1,K1⟩:=K0 h0
  refine hX.go [f_ (df h0)] ?_
  rcases bcase b1 with h1|h1
  ·have HE:=L1 h1
   exact(hX.to HE.symm).e [t_ h1]
  ·have HE:=K1 h1
   exact(hX.to HE.symm).e [f_ h1]
theorem rFrom_l {X:Cx} {C:Cl} {n b:Int} {res:SV} (hC:CalOk C) (hn:NDay n) (hb:b=1∨b= -1) (hX:Fi X 133 (calH C) res []): ∀ (f i:Nat),i+f=61→ .tup [I (frS C n b f i).1,I (frS C n b f i).2]=res→Ok X (rollFrom_h0 C b n (i:Int))
 |0,i,hi,hr=>rollFrom_w1 hX ⟨fun c=>absurd c (by omega),fun _=>hr⟩
 |f+1,i,hi,hr=>by
  unfold NDay at hn
  unfold frS at hr
  have e:(i:Int)*b=i∨(i:Int)*b= -i:=by rcases hb with rfl|rfl<;>omega
  refine rollFrom_w1 hX ⟨fun _=>⟨irT (by omega),irT (by omega),fun c=> ?_,fun c=>⟨hC,fun d=> ?_,fun d=>⟨irT (by omega),rFrom_l hC hn hb hX f (i+1) (by omega) ?_⟩⟩⟩,fun c=>absurd (show(i:Int)≤60 by omega) c⟩
  ·have hd:isDay (n+(i:Int)*b)=false:=by cases h:isDay (n+(i:Int)*b);rfl;exact absurd (cE_0.2 h) c
   rw[if_pos hd]at hr
   rw[←hr,cE_3 c]
  ·rw[if_neg (by rw[cE_0.1 c];decide),if_pos d]at hr;exact hr
  ·rw[if_neg (by rw[cE_0.1 c];decide),if_neg (by rw[d];decide)]at hr;exact hr
theorem rFrom {C:Cl} {n b:Int} (hC:CalOk C) (hn:NDay n) (hb:b=1∨b= -1):S 133 [.agg [B (C.off 0),B (C.off 1),B (C.off 2),B (C.off 3),B (C.off 4),B (C.off 5),B (C.off 6), .sl 0 C.nr, .sl 1 C.nd,I b],I n] (calH C) (.tup [I (frV C n b).1,I (frV C n b).2]) []:=
 SCall.st fun X hX=>rollFrom_w0 hX (rFrom_l hC hn hb hX 61 0 (by omega) rfl)
theorem rStep_o {X:Cx} {C:Cl} {n b:Int} {res:SV} (hC:CalOk C) (hn:isDay n=true) (hb:b=1∨b= -1) (hX:Fi X 71 (calH C) res []) (hr: .tup [I 0,I 3]=res): ∀ (f i:Nat),i+f=61→(∀ j:Nat,i≤j→isDay (n+(j:Int)*b)=false)→Ok X (refStep_h0 C n b true (i:Int))
 |0,i,hi,ho=>refStep_w1 hX ⟨fun c=>absurd c (by omega),fun _=>⟨fun _=>hr,fun c=>by cases c⟩⟩
 |f+1,i,hi,ho=>by
  have h0:=isDay_iff.1 hn
  have e:(i:Int)*b=i∨(i:Int)*b= -i:=by rcases hb with rfl|rfl<;>omega
  refine refStep_w1 hX ⟨fun _=>⟨irT (by omega),irT (by omega),hC,fun d=> ?_,fun d=>⟨fun _=>⟨irT (by omega),rStep_o hC hn hb hX hr f (i+1) (by omega) (fun j hj=>ho j (by omega))⟩,fun c=>by cases c⟩⟩,fun c=>absurd (show(i:Int)≤60 by omega) c⟩
  rw[biz_no (ho i (Nat.le_refl _))]at d;cases d
theorem rStep_l {X:Cx} {C:Cl} {n b:Int} {res:SV} (hC:CalOk C) (hn:isDay n=true) (hb:b=1∨b= -1) (hX:Fi X 71 (calH C) res []): ∀ (f i:Nat),i+f=61→ .tup [I (frS C n b f i).1,I (frS C n b f i).2]=res→Ok X (refStep_h0 C n b false (i:Int))
 |0,i,hi,hr=>refStep_w1 hX ⟨fun c=>absurd c (by omega),fun _=>⟨fun c=>(by cases c),fun _=>hr⟩⟩
 |f+1,i,hi,hr=>by
  have h0:=isDay_iff.1 hn
  unfold frS at hr
  have e: ∀ j:Nat,(j:Int)*b=j∨(j:Int)*b= -j:=by intro j;rcases hb with rfl|rfl<;>omega
  have ei:=e i
  refine refStep_w1 hX ⟨fun _=>⟨irT (by omega),irT (by omega),hC,fun d=> ?_,fun d=>⟨fun c=>(by cases c),fun _=>⟨irT (by omega), ?_⟩⟩⟩,fun c=>absurd (show(i:Int)≤60 by omega) c⟩
  ·rw[if_neg (by rw[biz_day d];decide),if_pos d]at hr;exact hr
  ·cases hd:isDay (n+(i:Int)*b)
   ·rw[if_pos hd]at hr
    refine rStep_o hC hn hb hX hr f (i+1) (by omega) (fun j hj=> ?_)
    have:=isDay_f.1 hd
    refine isDay_f.2 ?_
    rcases hb with rfl|rfl
    ·simp only[Int.mul_one]at this⊢;omega
    ·have q1:(i:Int)*(-1)= -i:=by omega
     have q2:(j:Int)*(-1)= -j:=by omega
     rw[q1]at this;rw[q2];omega
   ·rw[if_neg (by rw[hd];decide),if_neg (by rw[d];decide)]at hr
    exact rStep_l hC hn hb hX f (i+1) (by omega) hr
theorem rStep {C:Cl} {n b:Int} (hC:CalOk C) (hn:NDay n) (hb:b=1∨b= -1):S 71 [calL C,I n,I b] (calH C) (.tup [I (frV C n b).1,I (frV C n b).2]) []:=by
 refine SCall.st fun X hX=>refStep_w0 hX ⟨fun c=> ?_,fun c=>rStep_l hC c hb hX 61 0 (by omega) rfl⟩
 have e:frV C n b=(0,3):=by
  unfold frV frS
  rw[if_pos (by rw[show n+((0:Nat):Int)*b=n by simp];exact c)]
 rw[e]
theorem demurrageref14_Next_w {C:Cl} {a1 a2:Int} {res:SV} (H:CalOk C∧NDay a1∧((.tup [I ((frV C a1 1).1),I ((frV C a1 1).2)]):SV)=res):
  S 45 [.agg [B (C.off 0),B (C.off 1),B (C.off 2),B (C.off 3),B (C.off 4),B (C.off 5),B (C.off 6), .sl 0 C.nr, .sl 1 C.nd],I a1] (calH C) (res) []:=by
 refine SCall.st fun X hX=> ?_
 obtain⟨h0,h1,HE⟩:=H
 exact(hX.to HE.symm).e [c_ [0,1] (show S 71 [.agg [B (C.off 0),B (C.off 1),B (C.off 2),B (C.off 3),B (C.off 4),B (C.off 5),B (C.off 6), .sl 0 C.nr, .sl 1 C.nd],I a1,I 1] (calH C) (.tup [I ((frV C a1 1).1),I ((frV C a1 1).2)]) []from rStep h0 h1 (by decide))]
theorem demurrageref14_Prev_w {C:Cl} {a1 a2:Int} {res:SV} (H:CalOk C∧NDay a1∧((.tup [I ((frV C a1 (-1)).1),I ((frV C a1 (-1)).2)]):SV)=res):
  S 47 [.agg [B (C.off 0),B (C.off 1),B (C.off 2),B (C.off 3),B (C.off 4),B (C.off 5),B (C.off 6), .sl 0 C.nr, .sl 1 C.nd],I a1] (calH C) (res) []:=by
 refine SCall.st fun X hX=> ?_
 obtain⟨h0,h1,HE⟩:=H
 exact(hX.to HE.symm).e [c_ [0,1] (show S 71 [.agg [B (C.off 0),B (C.off 1),B (C.off 2),B (C.off 3),B (C.off 4),B (C.off 5),B (C.off 6), .sl 0 C.nr, .sl 1 C.nd],I a1,I (-1)] (calH C) (.tup [I ((frV C a1 (-1)).1),I ((frV C a1 (-1)).2)]) []from rStep h0 h1 (by decide))]
theorem demurrageref14_month_w {a1 a2:Int} {res:SV} (H:((cY a1)=(cY a2)→(B ((cM a1)==(cM a2)):SV)=res)∧((cY a1)≠(cY a2)→(B false:SV)=res)):
  S 46 [I a1,I a2] [] (res) []:=by
 refine SCall.st fun X hX=> ?_
 obtain⟨L0,K0⟩:=H
 refine hX.go [c_ [] (rOfT a1),c_ [] (rOfT a2)] ?_
 by_cases h0:(cY a1)=(cY a2)
 ·have HE:=L0 h0
  exact(hX.to HE.symm).e [n_ 6 (t_ (beq_iff_eq.2 h0))]
 ·have HE:=K0 h0
  exact(hX.to HE.symm).e [n_ 6 (f_ (beq_eq_false_iff_ne.2 h0))]
theorem rNext {C:Cl} {n:Int} (hC:CalOk C) (hn:NDay n):S 45 [calL C,I n] (calH C) (.tup [I (frV C n 1).1,I (frV C n 1).2]) []:=demurrageref14_Next_w (a2:=0) ⟨hC,hn,rfl⟩
theorem rPrev {C:Cl} {n:Int} (hC:CalOk C) (hn:NDay n):S 47 [calL C,I n] (calH C) (.tup [I (frV C n (-1)).1,I (frV C n (-1)).2]) []:=demurrageref14_Prev_w (a2:=0) ⟨hC,hn,rfl⟩
theorem rMonth (n m:Int):S 46 [I n,I m] [] (B (smB n m)) []:=by
 refine demurrageref14_month_w ⟨fun c=> ?_,fun c=> ?_⟩
 ·unfold smB;rw[beq_iff_eq.2 c,Bool.true_and]
 ·unfold smB;rw[beq_eq_false_iff_ne.2 c,Bool.false_and]
theorem rollTo_w {C:Cl} {a1 a2:Int} {res:SV} (H:(a2=0→((cE a1)≠0→((.tup [I 0,I (cE a1)]):SV)=res)∧((cE a1)=0→((.tup [I a1,I 0]):SV)=res))∧(a2≠0→(a2=4→CalOk C∧NDay a1∧(((frV C a1 (-1)).2)=0→((((cY ((frV C a1 (-1)).1))==(cY a1))&&(((cM ((frV C a1 (-1)).1))==(cM a1))&&(((0:Int)==0)&&true)))=false→((.tup [I ((frV C a1 1).1),I ((frV C a1 1).2)]):SV)=res)∧((((cY ((frV C a1 (-1)).1))==(cY a1))&&(((cM ((frV C a1 (-1)).1))==(cM a1))&&(((0:Int)==0)&&true)))=true→((.tup [I ((frV C a1 (-1)).1),I ((frV C a1 (-1)).2)]):SV)=res))∧(((frV C a1 (-1)).2)≠0→((.tup [I ((frV C a1 (-1)).1),I ((frV C a1 (-1)).2)]):SV)=res))∧(a2≠4→(a2=3→CalOk C∧NDay a1∧(((frV C a1 (-1)).2)=0→((.tup [I ((frV C a1 (-1)).1),I ((frV C a1 (-1)).2)]):SV)=res)∧(((frV C a1 (-1)).2)≠0→((.tup [I ((frV C a1 (-1)).1),I ((frV C a1 (-1)).2)]):SV)=res))∧(a2≠3→(a2=2→CalOk C∧NDay a1∧(((frV C a1 1).2)=0→((((cY ((frV C a1 1).1))==(cY a1))&&(((cM ((frV C a1 1).1))==(cM a1))&&(((0:Int)==0)&&true)))=false→((.tup [I ((frV C a1 (-1)).1),I ((frV C a1 (-1)).2)]):SV)=res)∧((((cY ((frV C a1 1).1))==(cY a1))&&(((cM ((frV C a1 1).1))==(cM a1))&&(((0:Int)==0)&&true)))=true→((.tup [I ((frV C a1 1).1),I ((frV C a1 1).2)]):SV)=res))∧(((frV C a1 1).2)≠0→((.tup [I ((frV C a1 1).1),I ((frV C a1 1).2)]):SV)=res))∧(a2≠2→(a2=1→CalOk C∧NDay a1∧(((frV C a1 1).2)=0→((.tup [I ((frV C a1 1).1),I ((frV C a1 1).2)]):SV)=res)∧(((frV C a1 1).2)≠0→((.tup [I ((frV C a1 1).1),I ((frV C a1 1).2)]):SV)=res))∧(a2≠1→((.tup [I 0,I 1]):SV)=res)))))):
  S 106 [.agg [B (C.off 0),B (C.off 1),B (C.off 2),B (C.off 3),B (C.off 4),B (C.off 5),B (C.off 6), .sl 0 C.nr, .sl 1 C.nd],I a1,I a2] (calH C) (res) []:=by
 refine SCall.st fun X hX=> ?_
 obtain⟨L0,K0⟩:=H
 refine hX.go [d_ 7] ?_
 by_cases h0:a2=0
 ·obtain⟨L1,K1⟩:=L0 h0
  refine hX.go [t_ (beq_iff_eq.2 h0),c_ [] (cOfT a1)] ?_
  by_cases h1:(cE a1)=0
  ·have HE:=K1 h1
   exact(hX.to HE.symm).e [f_ (bne_eq_false_iff_eq.2 h1)]
  ·have HE:=L1 h1
   exact(hX.to HE.symm).e [t_ (bne_iff_ne.2 h1)]
 ·obtain⟨L1,K1⟩:=K0 h0
  refine hX.go [f_ (beq_eq_false_iff_ne.2 h0)] ?_
  by_cases h1:a2=4
  ·obtain⟨h2,h3,L4,K4⟩:=L1 h1
   refine hX.go [t_ (beq_iff_eq.2 h1),c_ [0,1] (show S 133 [.agg [B (C.off 0),B (C.off 1),B (C.off 2),B (C.off 3),B (C.off 4),B (C.off 5),B (C.off 6), .sl 0 C.nr, .sl 1 C.nd,I (-1)],I a1] (calH C) (.tup [I ((frV C a1 (-1)).1),I ((frV C a1 (-1)).2)]) []from rFrom h2 h3 (by decide))] ?_
   by_cases h4:((frV C a1 (-1)).2)=0
   ·obtain⟨L5,K5⟩:=L4 h4
    refine hX.go [t_ (beq_iff_eq.2 h4),t_ (beq_iff_eq.2 h4),t_ rt,t_ rt,i_,c_ [] (cOfT ((frV C a1 (-1)).1)),t_ rt,t_ rt,i_,c_ [] (cOfT a1),t_ rt,t_ rt] ?_
    rcases bcase (((cY ((frV C a1 (-1)).1))==(cY a1))&&(((cM ((frV C a1 (-1)).1))==(cM a1))&&(((0:Int)==0)&&true)))with h5|h5
    ·have HE:=K5 h5
     exact(hX.to HE.symm).e [f_ (nf h5)]
    ·have HE:=L5 h5
     exact(hX.to HE.symm).e [t_ (nt h5),c_ [0,1] (show S 133 [.agg [B (C.off 0),B (C.off 1),B (C.off 2),B (C.off 3),B (C.off 4),B (C.off 5),B (C.off 6), .sl 0 C.nr, .sl 1 C.nd,I 1],I a1] (calH C) (.tup [I ((frV C a1 1).1),I ((frV C a1 1).2)]) []from rFrom h2 h3 (by decide))]
   ·have HE:=K4 h4
    exact(hX.to HE.symm).e [f_ (beq_eq_false_iff_ne.2 h4),f_ (beq_eq_false_iff_ne.2 h4),n_ 7 (f_ rf)]
  ·obtain⟨L2,K2⟩:=K1 h1
   refine hX.go [f_ (beq_eq_false_iff_ne.2 h1)] ?_
   by_cases h2:a2=3
   ·obtain⟨h3,h4,L5,K5⟩:=L2 h2
    refine hX.go [t_ (beq_iff_eq.2 h2),c_ [0,1] (show S 133 [.agg [B (C.off 0),B (C.off 1),B (C.off 2),B (C.off 3),B (C.off 4),B (C.off 5),B (C.off 6), .sl 0 C.nr, .sl 1 C.nd,I (-1)],I a1] (calH C) (.tup [I ((frV C a1 (-1)).1),I ((frV C a1 (-1)).2)]) []from rFrom h3 h4 (by decide))] ?_
    by_cases h5:((frV C a1 (-1)).2)=0
    ·have HE:=L5 h5
     exact(hX.to HE.symm).e [t_ (beq_iff_eq.2 h5),t_ (beq_iff_eq.2 h5),n_ 7 (f_ rf)]
    ·have HE:=K5 h5
     exact(hX.to HE.symm).e [f_ (beq_eq_false_iff_ne.2 h5),f_ (beq_eq_false_iff_ne.2 h5),n_ 7 (f_ rf)]
   ·obtain⟨L3,K3⟩:=K2 h2
    refine hX.go [f_ (beq_eq_false_iff_ne.2 h2)] ?_
    by_cases h3:a2=2
    ·obtain⟨h4,h5,L6,K6⟩:=L3 h3
     refine hX.go [t_ (beq_iff_eq.2 h3),c_ [0,1] (show S 133 [.agg [B (C.off 0),B (C.off 1),B (C.off 2),B (C.off 3),B (C.off 4),B (C.off 5),B (C.off 6), .sl 0 C.nr, .sl 1 C.nd,I 1],I a1] (calH C) (.tup [I ((frV C a1 1).1),I ((frV C a1 1).2)]) []from rFrom h4 h5 (by decide))] ?_
     by_cases h6:((frV C a1 1).2)=0
     ·obtain⟨L7,K7⟩:=L6 h6
      refine hX.go [t_ (beq_iff_eq.2 h6),t_ (beq_iff_eq.2 h6),t_ rt,t_ rt,i_,c_ [] (cOfT ((frV C a1 1).1)),t_ rt,t_ rt,i_,c_ [] (cOfT a1),t_ rt,t_ rt] ?_
      rcases bcase (((cY ((frV C a1 1).1))==(cY a1))&&(((cM ((frV C a1 1).1))==(cM a1))&&(((0:Int)==0)&&true)))with h7|h7
      ·have HE:=K7 h7
       exact(hX.to HE.symm).e [f_ (nf h7)]
      ·have HE:=L7 h7
       exact(hX.to HE.symm).e [t_ (nt h7),c_ [0,1] (show S 133 [.agg [B (C.off 0),B (C.off 1),B (C.off 2),B (C.off 3),B (C.off 4),B (C.off 5),B (C.off 6), .sl 0 C.nr, .sl 1 C.nd,I (-1)],I a1] (calH C) (.tup [I ((frV C a1 (-1)).1),I ((frV C a1 (-1)).2)]) []from rFrom h4 h5 (by decide))]
     ·have HE:=K6 h6
      exact(hX.to HE.symm).e [f_ (beq_eq_false_iff_ne.2 h6),f_ (beq_eq_false_iff_ne.2 h6),n_ 7 (f_ rf)]
    ·obtain⟨L4,K4⟩:=K3 h3
     refine hX.go [f_ (beq_eq_false_iff_ne.2 h3)] ?_
     by_cases h4:a2=1
     ·obtain⟨h5,h6,L7,K7⟩:=L4 h4
      refine hX.go [t_ (beq_iff_eq.2 h4),c_ [0,1] (show S 133 [.agg [B (C.off 0),B (C.off 1),B (C.off 2),B (C.off 3),B (C.off 4),B (C.off 5),B (C.off 6), .sl 0 C.nr, .sl 1 C.nd,I 1],I a1] (calH C) (.tup [I ((frV C a1 1).1),I ((frV C a1 1).2)]) []from rFrom h5 h6 (by decide))] ?_
      by_cases h7:((frV C a1 1).2)=0
      ·have HE:=L7 h7
       exact(hX.to HE.symm).e [t_ (beq_iff_eq.2 h7),t_ (beq_iff_eq.2 h7),n_ 7 (f_ rf)]
      ·have HE:=K7 h7
       exact(hX.to HE.symm).e [f_ (beq_eq_false_iff_ne.2 h7),f_ (beq_eq_false_iff_ne.2 h7),n_ 7 (f_ rf)]
     ·have HE:=K4 h4
      exact(hX.to HE.symm).e [f_ (beq_eq_false_iff_ne.2 h4)]
theorem refTo_w {C:Cl} {a1 a2:Int} {res:SV} (H:(a2<0→((.tup [I 0,I 1]):SV)=res)∧(¬a2<0→(a2>4→((.tup [I 0,I 1]):SV)=res)∧(¬a2>4→(a2=0→((isDay a1)=false→((.tup [I 0,I 3]):SV)=res)∧((isDay a1)=true→((.tup [I a1,I 0]):SV)=res))∧(a2≠0→(a2≤2→CalOk C∧NDay a1∧(((frV C a1 1).2)=0→(a2=2→((smB a1 ((frV C a1 1).1))=false→((.tup [I ((frV C a1 ((-1))).1),I ((frV C a1 ((-1))).2)]):SV)=res)∧((smB a1 ((frV C a1 1).1))=true→((.tup [I ((frV C a1 1).1),I ((frV C a1 1).2)]):SV)=res))∧(a2≠2→((.tup [I ((frV C a1 1).1),I ((frV C a1 1).2)]):SV)=res))∧(((frV C a1 1).2)≠0→(a2=2→((.tup [I ((frV C a1 1).1),I ((frV C a1 1).2)]):SV)=res)∧(a2≠2→((.tup [I ((frV C a1 1).1),I ((frV C a1 1).2)]):SV)=res)))∧(¬a2≤2→CalOk C∧NDay a1∧(((frV C a1 ((-1))).2)=0→(a2=4→((smB a1 ((frV C a1 ((-1))).1))=false→((.tup [I ((frV C a1 1).1),I ((frV C a1 1).2)]):SV)=res)∧((smB a1 ((frV C a1 ((-1))).1))=true→((.tup [I ((frV C a1 ((-1))).1),I ((frV C a1 ((-1))).2)]):SV)=res))∧(a2≠4→((.tup [I ((frV C a1 ((-1))).1),I ((frV C a1 ((-1))).2)]):SV)=res))∧(((frV C a1 ((-1))).2)≠0→(a2=4→((.tup [I ((frV C a1 ((-1))).1),I ((frV C a1 ((-1))).2)]):SV)=res)∧(a2≠4→((.tup [I ((frV C a1 ((-1))).1),I ((frV C a1 ((-1))).2)]):SV)=res))))))):
  S 26 [.agg [B (C.off 0),B (C.off 1),B (C.off 2),B (C.off 3),B (C.off 4),B (C.off 5),B (C.off 6), .sl 0 C.nr, .sl 1 C.nd],I a1,I a2] (calH C) (res) []:=by
 refine SCall.st fun X hX=> ?_
 obtain⟨L0,K0⟩:=H
 by_cases h0:a2<0
 ·have HE:=L0 h0
  exact(hX.to HE.symm).e [n_ 3 (t_ (dt h0)),t_ rt]
 ·obtain⟨L1,K1⟩:=K0 h0
  refine hX.go [n_ 3 (f_ (df h0))] ?_
  by_cases h1:a2>4
  ·have HE:=L1 h1
   exact(hX.to HE.symm).e [t_ (dt h1)]
  ·obtain⟨L2,K2⟩:=K1 h1
   refine hX.go [f_ (df h1)] ?_
   by_cases h2:a2=0
   ·obtain⟨L3,K3⟩:=L2 h2
    refine hX.go [t_ (beq_iff_eq.2 h2),c_ [] (rDay a1)] ?_
    rcases bcase (isDay a1)with h3|h3
    ·have HE:=K3 h3
     exact(hX.to HE.symm).e [f_ (nf h3)]
    ·have HE:=L3 h3
     exact(hX.to HE.symm).e [t_ (nt h3)]
   ·obtain⟨L3,K3⟩:=K2 h2
    refine hX.go [f_ (beq_eq_false_iff_ne.2 h2)] ?_
    by_cases h3:a2≤2
    ·obtain⟨h4,h5,L6,K6⟩:=L3 h3
     refine hX.go [t_ (dt h3),c_ [0,1] (show S 45 [.agg [B (C.off 0),B (C.off 1),B (C.off 2),B (C.off 3),B (C.off 4),B (C.off 5),B (C.off 6), .sl 0 C.nr, .sl 1 C.nd],I a1] (calH C) (.tup [I ((frV C a1 1).1),I ((frV C a1 1).2)]) []from rNext h4 h5)] ?_
     by_cases h6:((frV C a1 1).2)=0
     ·obtain⟨L7,K7⟩:=L6 h6
      refine hX.go [n_ 3 (t_ (beq_iff_eq.2 h6)),c_ [] (rMonth a1 ((frV C a1 1).1)),t_ (beq_iff_eq.2 h6)] ?_
      by_cases h7:a2=2
      ·obtain⟨L8,K8⟩:=L7 h7
       refine hX.go [n_ 3 (t_ (beq_iff_eq.2 h7)),n_ 3 (t_ (beq_iff_eq.2 h6))] ?_
       rcases bcase (smB a1 ((frV C a1 1).1))with h8|h8
       ·have HE:=K8 h8
        exact(hX.to HE.symm).e [f_ (nf h8)]
       ·have HE:=L8 h8
        exact(hX.to HE.symm).e [t_ (nt h8),c_ [0,1] (show S 47 [.agg [B (C.off 0),B (C.off 1),B (C.off 2),B (C.off 3),B (C.off 4),B (C.off 5),B (C.off 6), .sl 0 C.nr, .sl 1 C.nd],I a1] (calH C) (.tup [I ((frV C a1 ((-1))).1),I ((frV C a1 ((-1))).2)]) []from rPrev h4 h5)]
      ·have HE:=K7 h7
       exact(hX.to HE.symm).e [n_ 3 (f_ (beq_eq_false_iff_ne.2 h7)),n_ 4 (f_ rf)]
     ·obtain⟨L7,K7⟩:=K6 h6
      refine hX.go [n_ 4 (f_ (beq_eq_false_iff_ne.2 h6))] ?_
      by_cases h7:a2=2
      ·have HE:=L7 h7
       exact(hX.to HE.symm).e [n_ 3 (t_ (beq_iff_eq.2 h7)),n_ 3 (f_ (beq_eq_false_iff_ne.2 h6)),f_ rf]
      ·have HE:=K7 h7
       exact(hX.to HE.symm).e [n_ 3 (f_ (beq_eq_false_iff_ne.2 h7)),n_ 4 (f_ rf)]
    ·obtain⟨h4,h5,L6,K6⟩:=K3 h3
     refine hX.go [f_ (df h3),c_ [0,1] (show S 47 [.agg [B (C.off 0),B (C.off 1),B (C.off 2),B (C.off 3),B (C.off 4),B (C.off 5),B (C.off 6), .sl 0 C.nr, .sl 1 C.nd],I a1] (calH C) (.tup [I ((frV C a1 ((-1))).1),I ((frV C a1 ((-1))).2)]) []from rPrev h4 h5)] ?_
     by_cases h6:((frV C a1 ((-1))).2)=0
     ·obtain⟨L7,K7⟩:=L6 h6
      refine hX.go [n_ 3 (t_ (beq_iff_eq.2 h6)),c_ [] (rMonth a1 ((frV C a1 ((-1))).1)),t_ (beq_iff_eq.2 h6)] ?_
      by_cases h7:a2=4
      ·obtain⟨L8,K8⟩:=L7 h7
       refine hX.go [n_ 3 (t_ (beq_iff_eq.2 h7)),n_ 3 (t_ (beq_iff_eq.2 h6))] ?_
       rcases bcase (smB a1 ((frV C a1 ((-1))).1))with h8|h8
       ·have HE:=K8 h8
        exact(hX.to HE.symm).e [f_ (nf h8)]
       ·have HE:=L8 h8
        exact(hX.to HE.symm).e [t_ (nt h8),c_ [0,1] (show S 45 [.agg [B (C.off 0),B (C.off 1),B (C.off 2),B (C.off 3),B (C.off 4),B (C.off 5),B (C.off 6), .sl 0 C.nr, .sl 1 C.nd],I a1] (calH C) (.tup [I ((frV C a1 1).1),I ((frV C a1 1).2)]) []from rNext h4 h5)]
      ·have HE:=K7 h7
       exact(hX.to HE.symm).e [n_ 3 (f_ (beq_eq_false_iff_ne.2 h7)),n_ 4 (f_ rf)]
     ·obtain⟨L7,K7⟩:=K6 h6
      refine hX.go [n_ 4 (f_ (beq_eq_false_iff_ne.2 h6))] ?_
      by_cases h7:a2=4
      ·have HE:=L7 h7
       exact(hX.to HE.symm).e [n_ 3 (t_ (beq_iff_eq.2 h7)),n_ 3 (f_ (beq_eq_false_iff_ne.2 h6)),f_ rf]
      ·have HE:=K7 h7
       exact(hX.to HE.symm).e [n_ 3 (f_ (beq_eq_false_iff_ne.2 h7)),n_ 4 (f_ rf)]
theorem to_0 {C:Cl} {n:Int}:toV C n 0=if isDay n=false then(0,3)else(n,0):=by unfold toV;rw[if_neg (by omega),if_pos rfl]
theorem to_1 {C:Cl} {n:Int}:toV C n 1=frV C n 1:=by unfold toV;rw[if_neg (by omega),if_neg (by omega),if_pos (by omega),if_neg (by omega)]
theorem to_2 {C:Cl} {n:Int}:toV C n 2=if(frV C n 1).2=0∧smB n (frV C n 1).1=false then frV C n (-1)else frV C n 1:=by
 unfold toV;rw[if_neg (by omega),if_neg (by omega),if_pos (by omega)];simp
theorem to_3 {C:Cl} {n:Int}:toV C n 3=frV C n (-1):=by unfold toV;rw[if_neg (by omega),if_neg (by omega),if_neg (by omega),if_neg (by omega)]
theorem to_4 {C:Cl} {n:Int}:toV C n 4=if(frV C n (-1)).2=0∧smB n (frV C n (-1)).1=false then frV C n 1 else frV C n (-1):=by
 unfold toV;rw[if_neg (by omega),if_neg (by omega),if_neg (by omega)];simp
theorem to_x {C:Cl} {n k:Int} (h:k<0∨k>4):toV C n k=(0,1):=by unfold toV;rw[if_pos h]
theorem sm_eq {n m:Int}:(((cY m)==(cY n))&&(((cM m)==(cM n))&&(((0:Int)==0)&&true)))=smB n m:=by
 unfold smB
 rw[show(cY m==cY n)=(cY n==cY m)from Bool.beq_comm ..,show(cM m==cM n)=(cM n==cM m)from Bool.beq_comm ..]
 simp
theorem pTo {C:Cl} {n k:Int} (hC:CalOk C) (hn:NDay n):S 106 [calL C,I n,I k] (calH C) (.tup [I (toV C n k).1,I (toV C n k).2]) []:=by
 refine rollTo_w ⟨fun z=> ?_,fun z0=>⟨fun z=> ?_,fun z4=>⟨fun z=> ?_,fun z3=>⟨fun z=> ?_,fun z2=>⟨fun z=> ?_,fun z1=> ?_⟩⟩⟩⟩⟩
 ·subst z
  rw[to_0]
  refine⟨fun c=> ?_,fun c=> ?_⟩
  ·rw[if_pos (by cases h:isDay n;rfl;exact absurd (cE_0.2 h) c),cE_3 c]
  ·rw[if_neg (by rw[cE_0.1 c];decide)]
 ·subst z
  rw[to_4]
  refine⟨hC,hn,fun c=>⟨fun d=> ?_,fun d=> ?_⟩,fun c=> ?_⟩
  ·rw[sm_eq]at d;rw[if_pos ⟨c,d⟩]
  ·rw[sm_eq]at d;rw[if_neg (by rintro ⟨-,e⟩;rw[d]at e;cases e)]
  ·rw[if_neg (by rintro ⟨e, -⟩;exact c e)]
 ·subst z
  rw[to_3];exact⟨hC,hn,fun _=>rfl,fun _=>rfl⟩
 ·subst z
  rw[to_2]
  refine⟨hC,hn,fun c=>⟨fun d=> ?_,fun d=> ?_⟩,fun c=> ?_⟩
  ·rw[sm_eq]at d;rw[if_pos ⟨c,d⟩]
  ·rw[sm_eq]at d;rw[if_neg (by rintro ⟨-,e⟩;rw[d]at e;cases e)]
  ·rw[if_neg (by rintro ⟨e, -⟩;exact c e)]
 ·subst z
  rw[to_1];exact⟨hC,hn,fun _=>rfl,fun _=>rfl⟩
 ·rw[to_x (by omega)]
theorem rTo {C:Cl} {n k:Int} (hC:CalOk C) (hn:NDay n):S 26 [calL C,I n,I k] (calH C) (.tup [I (toV C n k).1,I (toV C n k).2]) []:=by
 refine refTo_w ⟨fun z=> ?_,fun z=>⟨fun z'=> ?_,fun z'=>⟨fun z0=> ?_,fun z0=>⟨fun z2=>⟨hC,hn,fun c=>⟨fun k2=>⟨fun d=> ?_,fun d=> ?_⟩,fun k2=> ?_⟩,fun c=>⟨fun k2=> ?_,fun k2=> ?_⟩⟩,fun z2=>⟨hC,hn,fun c=>⟨fun k4=>⟨fun d=> ?_,fun d=> ?_⟩,fun k4=> ?_⟩,fun c=>⟨fun k4=> ?_,fun k4=> ?_⟩⟩⟩⟩⟩⟩
 ·rw[to_x (.inl z)]
 ·rw[to_x (.inr z')]
 ·subst z0
  rw[to_0]
  exact⟨fun c=>by rw[if_pos c],fun c=>by rw[if_neg (by rw[c];decide)]⟩
 ·subst k2;rw[to_2,if_pos ⟨c,d⟩]
 ·subst k2;rw[to_2,if_neg (by rintro ⟨-,e⟩;rw[d]at e;cases e)]
 ·obtain rfl:k=1:=by omega
  rw[to_1]
 ·subst k2;rw[to_2,if_neg (by rintro ⟨e, -⟩;exact c e)]
 ·obtain rfl:k=1:=by omega
  rw[to_1]
 ·subst k4;rw[to_4,if_pos ⟨c,d⟩]
 ·subst k4;rw[to_4,if_neg (by rintro ⟨-,e⟩;rw[d]at e;cases e)]
 ·obtain rfl:k=3:=by omega
  rw[to_3]
 ·subst k4;rw[to_4,if_neg (by rintro ⟨e, -⟩;exact c e)]
 ·obtain rfl:k=3:=by omega
  rw[to_3]
end Go.Proofs.YtelidogcomffkaaGreatDoor
