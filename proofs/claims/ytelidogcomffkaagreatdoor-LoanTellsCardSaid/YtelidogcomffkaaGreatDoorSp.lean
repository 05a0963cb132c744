/-
Plans (chapter 17): sched.Of.
-/
import Derived.Test.YtelidogcomffkaaGreatDoorDp
import Derived.Test.YtelidogcomffkaaGreatDoorProg
import Derived.KernelRfl
set_option linter.unusedSectionVars false
set_option linter.unusedSimpArgs false
set_option linter.unusedVariables false
set_option maxRecDepth 100000
namespace Go.Proofs.YtelidogcomffkaaGreatDoor
open Go Go.Sx
variable [Env]
def fJ (n:Int):Prop:= -1000000000000000≤n∧n≤1000000000000000
theorem fJ.of {n:Int} (h:ai n=true):fJ n:=by have:=aP.1 h;unfold fJ;omega
noncomputable def Gl (C:Cl) (n b:Int):Nat→Nat→Int×Int
 |0,_=>(0,8)
 |f+1,i=>if ai (n+(i:Int)*b)=false then(0,3)else if gK C (n+(i:Int)*b)=true then(n+(i:Int)*b,0)else Gl C n b f (i+1)
noncomputable def bD (C:Cl) (n b:Int):Int×Int:=Gl C n b 61 0
def AW (n m:Int):Bool:=(cY n==cY m)&&(cM n==cM m)
noncomputable def aD (C:Cl) (n k:Int):Int×Int:=
 if k<0∨k>4 then(0,1)else if k=0 then(if ai n=false then(0,3)else(n,0))
 else if k≤2 then(if k=2∧(bD C n 1).2=0∧AW n (bD C n 1).1=false then bD C n (-1)else bD C n 1)
 else(if k=4∧(bD C n (-1)).2=0∧AW n (bD C n (-1)).1=false then bD C n 1 else bD C n (-1))
theorem Fb {C:Cl} {n:Int} (h:ai n=false):gK C n=false:=by unfold gK;rw[h,Bool.false_and]
theorem Gy {C:Cl} {n:Int} (h:gK C n=true):ai n=true:=by
 grind [Fb]
noncomputable def gS (C:Cl) (b:Int) (a1:Int) (x1:Int):SC:=
 ⟨[⟨133,bJ 33 [(1,I a1),(2, .ptr 2 0),(6,I x1)],[.code (aa Tryz.f133 [1,0,1,0,0]), .inLoop (aa Tryz.f133 [1,0,1,0,0]), .inBlock 0, .code (aa Tryz.f133 [1,1])],{}⟩],[some (.row false 109 C.nr 8 (fun i=>[I ((C.R i).kind),I ((C.R i).aY),I ((C.R i).day),I ((C.R i).k),I ((C.R i).off),I ((C.R i).sh),I ((C.R i).fr),I ((C.R i).to)])),some (.row false 3 C.nd 1 (fun i=>[I (C.D i)])),some (.box true [B (C.off 0),B (C.off 1),B (C.off 2),B (C.off 3),B (C.off 4),B (C.off 5),B (C.off 6), .sl 0 C.nr, .sl 1 C.nd,I b])]⟩
theorem xC {X:Cx} {C:Cl} {b a1:Int} {res:SV} (hX:Fi X 133 (aB C) (res) []) (H:Ok X (gS C b a1 0)):
  Ok X (entry Tryz.prog 133 [.agg [B (C.off 0),B (C.off 1),B (C.off 2),B (C.off 3),B (C.off 4),B (C.off 5),B (C.off 6), .sl 0 C.nr, .sl 1 C.nd,I b],I a1] (aB C)):=by
 have k:=H
 exact hX.h 13 [] (aA 3) k
theorem rz {X:Cx} {C:Cl} {b a1 x1:Int} {res:SV} (hX:Fi X 133 (aB C) (res) []) (H:(x1≤60→Ir (x1*b)∧Ir (a1+(x1*b))∧((cE (a1+(x1*b)))≠0→((.af [I 0,I (cE (a1+(x1*b)))]):SV)=res)∧((cE (a1+(x1*b)))=0→bU C∧((gK C (a1+(x1*b)))=true→((.af [I (a1+(x1*b)),I 0]):SV)=res)∧((gK C (a1+(x1*b)))=false→Ir (x1+1)∧Ok X (gS C b a1 (x1+1)))))∧(¬x1≤60→((.af [I 0,I 8]):SV)=res)):
  Ok X (gS C b a1 x1):=by
 obtain⟨L0,K0⟩:=H
 by_cases h0:x1≤60
 ·obtain⟨h1,h2,L3,K3⟩:=L0 h0
  refine hX.go [t_ (dt h0),q_ h1,q_ h2,c_ [] (fg (a1+(x1*b)))] ?_
  by_cases h3:(cE (a1+(x1*b)))=0
  ·obtain⟨h4,L5,K5⟩:=K3 h3
   refine hX.go [f_ (bne_eq_false_iff_eq.2 h3),c_ [0,1] (show S 166 [.agg [B (C.off 0),B (C.off 1),B (C.off 2),B (C.off 3),B (C.off 4),B (C.off 5),B (C.off 6), .sl 0 C.nr, .sl 1 C.nd],I (a1+(x1*b))] (aB C) (B (gK C (a1+(x1*b)))) []from Kv h4)] ?_
   rcases aq (gK C (a1+(x1*b)))with h5|h5
   ·have HE:=L5 h5
    exact(hX.to HE.symm).e [t_ h5]
   ·obtain⟨h6,k⟩:=K5 h5
    exact hX.h 9 [f_ h5,q_ h6] (aA 3) k
  ·have HE:=L3 h3
   exact(hX.to HE.symm).e [t_ (bne_iff_ne.2 h3)]
 ·have HE:=K0 h0
  exact(hX.to HE.symm).e [f_ (df h0)]
noncomputable def e_ (C:Cl) (a1:Int) (b:Int) (b1:Bool) (x2:Int):SC:=
 ⟨[⟨71,bJ 40 [(1,I a1),(2,I b),(3, .ptr 2 0),(9,B b1),(10,I x2)],[.code (aa Tryz.f71 [1,1,1,1,0,1,0,0]), .inLoop (aa Tryz.f71 [1,1,1,1,0,1,0,0]), .inBlock 0, .code (aa Tryz.f71 [1,1,1,1,1])],{}⟩],[some (.row false 109 C.nr 8 (fun i=>[I ((C.R i).kind),I ((C.R i).aY),I ((C.R i).day),I ((C.R i).k),I ((C.R i).off),I ((C.R i).sh),I ((C.R i).fr),I ((C.R i).to)])),some (.row false 3 C.nd 1 (fun i=>[I (C.D i)])),some (.box true [B (C.off 0),B (C.off 1),B (C.off 2),B (C.off 3),B (C.off 4),B (C.off 5),B (C.off 6), .sl 0 C.nr, .sl 1 C.nd])]⟩
theorem zp {X:Cx} {C:Cl} {a1 b:Int} {res:SV} (hX:Fi X 71 (aB C) (res) []) (H:((ai a1)=false→((.af [I 0,I 3]):SV)=res)∧((ai a1)=true→Ok X (e_ C a1 b false 0))):
  Ok X (entry Tryz.prog 71 [.agg [B (C.off 0),B (C.off 1),B (C.off 2),B (C.off 3),B (C.off 4),B (C.off 5),B (C.off 6), .sl 0 C.nr, .sl 1 C.nd],I a1,I b] (aB C)):=by
 obtain⟨L0,K0⟩:=H
 refine hX.go [c_ [] (dk a1)] ?_
 rcases aq (ai a1)with h0|h0
 ·have k:=K0 h0
  exact hX.h 13 [f_ (nf h0)] (aA 3) k
 ·have HE:=L0 h0
  exact(hX.to HE.symm).e [t_ (nt h0)]
theorem jy {X:Cx} {C:Cl} {a1 b:Int} {b1:Bool} {x2:Int} {res:SV} (hX:Fi X 71 (aB C) (res) []) (H:(x2≤60→Ir (x2*b)∧Ir (a1+(x2*b))∧bU C∧((gK C (a1+(x2*b)))=true→((.af [I (a1+(x2*b)),I 0]):SV)=res)∧((gK C (a1+(x2*b)))=false→(b1=true→Ir (x2+1)∧Ok X (e_ C a1 b true (x2+1)))∧(b1=false→Ir (x2+1)∧Ok X (e_ C a1 b (!(ai (a1+(x2*b)))) (x2+1)))))∧(¬x2≤60→(b1=true→((.af [I 0,I 3]):SV)=res)∧(b1=false→((.af [I 0,I 8]):SV)=res))):
  Ok X (e_ C a1 b b1 x2):=by
 obtain⟨L0,K0⟩:=H
 by_cases h0:x2≤60
 ·obtain⟨h1,h2,h3,L4,K4⟩:=L0 h0
  refine hX.go [t_ (dt h0),q_ h1,q_ h2,c_ [0,1] (show S 97 [.agg [B (C.off 0),B (C.off 1),B (C.off 2),B (C.off 3),B (C.off 4),B (C.off 5),B (C.off 6), .sl 0 C.nr, .sl 1 C.nd],I (a1+(x2*b))] (aB C) (B (gK C (a1+(x2*b)))) []from J0 h3)] ?_
  rcases aq (gK C (a1+(x2*b)))with h4|h4
  ·have HE:=L4 h4
   exact(hX.to HE.symm).e [t_ h4]
  ·obtain⟨L5,K5⟩:=K4 h4
   refine hX.go [f_ h4,c_ [] (dk (a1+(x2*b)))] ?_
   rcases aq b1 with h5|h5
   ·obtain⟨h6,k⟩:=L5 h5
    exact hX.h 12 [n_ 3 (t_ h5),q_ h6] (aA 3) k
   ·obtain⟨h6,k⟩:=K5 h5
    exact hX.h 12 [n_ 3 (f_ h5),q_ h6] (aA 3) k
 ·obtain⟨L1,K1⟩:=K0 h0
  refine hX.go [f_ (df h0)] ?_
  rcases aq b1 with h1|h1
  ·have HE:=L1 h1
   exact(hX.to HE.symm).e [t_ h1]
  ·have HE:=K1 h1
   exact(hX.to HE.symm).e [f_ h1]
theorem Bg {X:Cx} {C:Cl} {n b:Int} {res:SV} (hC:bU C) (hn:fJ n) (hb:b=1∨b= -1) (hX:Fi X 133 (aB C) res []): ∀ (f i:Nat),i+f=61→ .af [I (Gl C n b f i).1,I (Gl C n b f i).2]=res→Ok X (gS C b n (i:Int))
 |0,i,hi,hr=>rz hX ⟨fun c=>absurd c (by omega),fun _=>hr⟩
 |f+1,i,hi,hr=>by
  unfold fJ at hn
  unfold Gl at hr
  have e:(i:Int)*b=i∨(i:Int)*b= -i:=by rcases hb with rfl|rfl<;>omega
  refine rz hX ⟨fun _=>⟨aT (by omega),aT (by omega),fun c=> ?_,fun c=>⟨hC,fun d=> ?_,fun d=>⟨aT (by omega),Bg hC hn hb hX f (i+1) (by omega) ?_⟩⟩⟩,fun c=>absurd (show(i:Int)≤60 by omega) c⟩
  ·have hd:ai (n+(i:Int)*b)=false:=by cases h:ai (n+(i:Int)*b);rfl;exact absurd (pQ.2 h) c
   rw[if_pos hd]at hr
   rw[←hr,Jm c]
  ·rw[if_neg (by rw[pQ.1 c];decide),if_pos d]at hr;exact hr
  ·rw[if_neg (by rw[pQ.1 c];decide),if_neg (by rw[d];decide)]at hr;exact hr
theorem vL {C:Cl} {n b:Int} (hC:bU C) (hn:fJ n) (hb:b=1∨b= -1):S 133 [.agg [B (C.off 0),B (C.off 1),B (C.off 2),B (C.off 3),B (C.off 4),B (C.off 5),B (C.off 6), .sl 0 C.nr, .sl 1 C.nd,I b],I n] (aB C) (.af [I (bD C n b).1,I (bD C n b).2]) []:=
 ab.st fun X hX=>xC hX (Bg hC hn hb hX 61 0 (by omega) rfl)
theorem A_ {X:Cx} {C:Cl} {n b:Int} {res:SV} (hC:bU C) (hn:ai n=true) (hb:b=1∨b= -1) (hX:Fi X 71 (aB C) res []) (hr: .af [I 0,I 3]=res): ∀ (f i:Nat),i+f=61→(∀ j:Nat,i≤j→ai (n+(j:Int)*b)=false)→Ok X (e_ C n b true (i:Int))
 |0,i,hi,ho=>jy hX ⟨fun c=>absurd c (by omega),fun _=>⟨fun _=>hr,fun c=>by cases c⟩⟩
 |f+1,i,hi,ho=>by
  have h0:=aP.1 hn
  have e:(i:Int)*b=i∨(i:Int)*b= -i:=by rcases hb with rfl|rfl<;>omega
  refine jy hX ⟨fun _=>⟨aT (by omega),aT (by omega),hC,fun d=> ?_,fun d=>⟨fun _=>⟨aT (by omega),A_ hC hn hb hX hr f (i+1) (by omega) (fun j hj=>ho j (by omega))⟩,fun c=>by cases c⟩⟩,fun c=>absurd (show(i:Int)≤60 by omega) c⟩
  grind [Fb]
theorem Ba {X:Cx} {C:Cl} {n b:Int} {res:SV} (hC:bU C) (hn:ai n=true) (hb:b=1∨b= -1) (hX:Fi X 71 (aB C) res []): ∀ (f i:Nat),i+f=61→ .af [I (Gl C n b f i).1,I (Gl C n b f i).2]=res→Ok X (e_ C n b false (i:Int))
 |0,i,hi,hr=>jy hX ⟨fun c=>absurd c (by omega),fun _=>⟨fun c=>(by cases c),fun _=>hr⟩⟩
 |f+1,i,hi,hr=>by
  have h0:=aP.1 hn
  unfold Gl at hr
  have e: ∀ j:Nat,(j:Int)*b=j∨(j:Int)*b= -j:=by intro j;rcases hb with rfl|rfl<;>omega
  have ei:=e i
  refine jy hX ⟨fun _=>⟨aT (by omega),aT (by omega),hC,fun d=> ?_,fun d=>⟨fun c=>(by cases c),fun _=>⟨aT (by omega), ?_⟩⟩⟩,fun c=>absurd (show(i:Int)≤60 by omega) c⟩
  ·grind [Gy]
  ·cases hd:ai (n+(i:Int)*b)
   ·rw[if_pos hd]at hr
    refine A_ hC hn hb hX hr f (i+1) (by omega) (fun j hj=> ?_)
    have:=BE.1 hd
    refine BE.2 ?_
    grind
   ·rw[if_neg (by rw[hd];decide),if_neg (by rw[d];decide)]at hr
    exact Ba hC hn hb hX f (i+1) (by omega) hr
theorem G3 {C:Cl} {n b:Int} (hC:bU C) (hn:fJ n) (hb:b=1∨b= -1):S 71 [qY C,I n,I b] (aB C) (.af [I (bD C n b).1,I (bD C n b).2]) []:=by
 refine ab.st fun X hX=>zp hX ⟨fun c=> ?_,fun c=>Ba hC c hb hX 61 0 (by omega) rfl⟩
 grind [Gl,bD]
theorem kN {C:Cl} {a1 a2:Int} {res:SV} (H:bU C∧fJ a1∧((.af [I ((bD C a1 1).1),I ((bD C a1 1).2)]):SV)=res):
  S 45 [.agg [B (C.off 0),B (C.off 1),B (C.off 2),B (C.off 3),B (C.off 4),B (C.off 5),B (C.off 6), .sl 0 C.nr, .sl 1 C.nd],I a1] (aB C) (res) []:=by
 refine ab.st fun X hX=> ?_
 obtain⟨h0,h1,HE⟩:=H
 exact(hX.to HE.symm).e [c_ [0,1] (show S 71 [.agg [B (C.off 0),B (C.off 1),B (C.off 2),B (C.off 3),B (C.off 4),B (C.off 5),B (C.off 6), .sl 0 C.nr, .sl 1 C.nd],I a1,I 1] (aB C) (.af [I ((bD C a1 1).1),I ((bD C a1 1).2)]) []from G3 h0 h1 (by decide))]
theorem kM {C:Cl} {a1 a2:Int} {res:SV} (H:bU C∧fJ a1∧((.af [I ((bD C a1 (-1)).1),I ((bD C a1 (-1)).2)]):SV)=res):
  S 47 [.agg [B (C.off 0),B (C.off 1),B (C.off 2),B (C.off 3),B (C.off 4),B (C.off 5),B (C.off 6), .sl 0 C.nr, .sl 1 C.nd],I a1] (aB C) (res) []:=by
 refine ab.st fun X hX=> ?_
 obtain⟨h0,h1,HE⟩:=H
 exact(hX.to HE.symm).e [c_ [0,1] (show S 71 [.agg [B (C.off 0),B (C.off 1),B (C.off 2),B (C.off 3),B (C.off 4),B (C.off 5),B (C.off 6), .sl 0 C.nr, .sl 1 C.nd],I a1,I (-1)] (aB C) (.af [I ((bD C a1 (-1)).1),I ((bD C a1 (-1)).2)]) []from G3 h0 h1 (by decide))]
theorem jP {a1 a2:Int} {res:SV} (H:((cY a1)=(cY a2)→(B ((cM a1)==(cM a2)):SV)=res)∧((cY a1)≠(cY a2)→(B false:SV)=res)):
  S 46 [I a1,I a2] [] (res) []:=by
 refine ab.st fun X hX=> ?_
 obtain⟨L0,K0⟩:=H
 refine hX.go [c_ [] (rX a1),c_ [] (rX a2)] ?_
 by_cases h0:(cY a1)=(cY a2)
 ·have HE:=L0 h0
  exact(hX.to HE.symm).e [n_ 6 (t_ (beq_iff_eq.2 h0))]
 ·have HE:=K0 h0
  exact(hX.to HE.symm).e [n_ 6 (f_ (beq_eq_false_iff_ne.2 h0))]
theorem G7 {C:Cl} {n:Int} (hC:bU C) (hn:fJ n):S 45 [qY C,I n] (aB C) (.af [I (bD C n 1).1,I (bD C n 1).2]) []:=kN (a2:=0) ⟨hC,hn,rfl⟩
theorem G4 {C:Cl} {n:Int} (hC:bU C) (hn:fJ n):S 47 [qY C,I n] (aB C) (.af [I (bD C n (-1)).1,I (bD C n (-1)).2]) []:=kM (a2:=0) ⟨hC,hn,rfl⟩
theorem Dx (n m:Int):S 46 [I n,I m] [] (B (AW n m)) []:=by
 grind [jP,AW]
theorem C7 {C:Cl} {a1 a2:Int} {res:SV} (H:(a2=0→((cE a1)≠0→((.af [I 0,I (cE a1)]):SV)=res)∧((cE a1)=0→((.af [I a1,I 0]):SV)=res))∧(a2≠0→(a2=4→bU C∧fJ a1∧(((bD C a1 (-1)).2)=0→((((cY ((bD C a1 (-1)).1))==(cY a1))&&(((cM ((bD C a1 (-1)).1))==(cM a1))&&(((0:Int)==0)&&true)))=false→((.af [I ((bD C a1 1).1),I ((bD C a1 1).2)]):SV)=res)∧((((cY ((bD C a1 (-1)).1))==(cY a1))&&(((cM ((bD C a1 (-1)).1))==(cM a1))&&(((0:Int)==0)&&true)))=true→((.af [I ((bD C a1 (-1)).1),I ((bD C a1 (-1)).2)]):SV)=res))∧(((bD C a1 (-1)).2)≠0→((.af [I ((bD C a1 (-1)).1),I ((bD C a1 (-1)).2)]):SV)=res))∧(a2≠4→(a2=3→bU C∧fJ a1∧(((bD C a1 (-1)).2)=0→((.af [I ((bD C a1 (-1)).1),I ((bD C a1 (-1)).2)]):SV)=res)∧(((bD C a1 (-1)).2)≠0→((.af [I ((bD C a1 (-1)).1),I ((bD C a1 (-1)).2)]):SV)=res))∧(a2≠3→(a2=2→bU C∧fJ a1∧(((bD C a1 1).2)=0→((((cY ((bD C a1 1).1))==(cY a1))&&(((cM ((bD C a1 1).1))==(cM a1))&&(((0:Int)==0)&&true)))=false→((.af [I ((bD C a1 (-1)).1),I ((bD C a1 (-1)).2)]):SV)=res)∧((((cY ((bD C a1 1).1))==(cY a1))&&(((cM ((bD C a1 1).1))==(cM a1))&&(((0:Int)==0)&&true)))=true→((.af [I ((bD C a1 1).1),I ((bD C a1 1).2)]):SV)=res))∧(((bD C a1 1).2)≠0→((.af [I ((bD C a1 1).1),I ((bD C a1 1).2)]):SV)=res))∧(a2≠2→(a2=1→bU C∧fJ a1∧(((bD C a1 1).2)=0→((.af [I ((bD C a1 1).1),I ((bD C a1 1).2)]):SV)=res)∧(((bD C a1 1).2)≠0→((.af [I ((bD C a1 1).1),I ((bD C a1 1).2)]):SV)=res))∧(a2≠1→((.af [I 0,I 1]):SV)=res)))))):
  S 106 [.agg [B (C.off 0),B (C.off 1),B (C.off 2),B (C.off 3),B (C.off 4),B (C.off 5),B (C.off 6), .sl 0 C.nr, .sl 1 C.nd],I a1,I a2] (aB C) (res) []:=by
 refine ab.st fun X hX=> ?_
 obtain⟨L0,K0⟩:=H
 refine hX.go [d_ 7] ?_
 by_cases h0:a2=0
 ·obtain⟨L1,K1⟩:=L0 h0
  refine hX.go [t_ (beq_iff_eq.2 h0),c_ [] (fg a1)] ?_
  by_cases h1:(cE a1)=0
  ·have HE:=K1 h1
   exact(hX.to HE.symm).e [f_ (bne_eq_false_iff_eq.2 h1)]
  ·have HE:=L1 h1
   exact(hX.to HE.symm).e [t_ (bne_iff_ne.2 h1)]
 ·obtain⟨L1,K1⟩:=K0 h0
  refine hX.go [f_ (beq_eq_false_iff_ne.2 h0)] ?_
  by_cases h1:a2=4
  ·obtain⟨h2,h3,L4,K4⟩:=L1 h1
   refine hX.go [t_ (beq_iff_eq.2 h1),c_ [0,1] (show S 133 [.agg [B (C.off 0),B (C.off 1),B (C.off 2),B (C.off 3),B (C.off 4),B (C.off 5),B (C.off 6), .sl 0 C.nr, .sl 1 C.nd,I (-1)],I a1] (aB C) (.af [I ((bD C a1 (-1)).1),I ((bD C a1 (-1)).2)]) []from vL h2 h3 (by decide))] ?_
   by_cases h4:((bD C a1 (-1)).2)=0
   ·obtain⟨L5,K5⟩:=L4 h4
    refine hX.go [t_ (beq_iff_eq.2 h4),t_ (beq_iff_eq.2 h4),t_ rt,t_ rt,i_,c_ [] (fg ((bD C a1 (-1)).1)),t_ rt,t_ rt,i_,c_ [] (fg a1),t_ rt,t_ rt] ?_
    rcases aq (((cY ((bD C a1 (-1)).1))==(cY a1))&&(((cM ((bD C a1 (-1)).1))==(cM a1))&&(((0:Int)==0)&&true)))with h5|h5
    ·have HE:=K5 h5
     exact(hX.to HE.symm).e [f_ (nf h5)]
    ·have HE:=L5 h5
     exact(hX.to HE.symm).e [t_ (nt h5),c_ [0,1] (show S 133 [.agg [B (C.off 0),B (C.off 1),B (C.off 2),B (C.off 3),B (C.off 4),B (C.off 5),B (C.off 6), .sl 0 C.nr, .sl 1 C.nd,I 1],I a1] (aB C) (.af [I ((bD C a1 1).1),I ((bD C a1 1).2)]) []from vL h2 h3 (by decide))]
   ·have HE:=K4 h4
    exact(hX.to HE.symm).e [f_ (beq_eq_false_iff_ne.2 h4),f_ (beq_eq_false_iff_ne.2 h4),n_ 7 (f_ rf)]
  ·obtain⟨L2,K2⟩:=K1 h1
   refine hX.go [f_ (beq_eq_false_iff_ne.2 h1)] ?_
   by_cases h2:a2=3
   ·obtain⟨h3,h4,L5,K5⟩:=L2 h2
    refine hX.go [t_ (beq_iff_eq.2 h2),c_ [0,1] (show S 133 [.agg [B (C.off 0),B (C.off 1),B (C.off 2),B (C.off 3),B (C.off 4),B (C.off 5),B (C.off 6), .sl 0 C.nr, .sl 1 C.nd,I (-1)],I a1] (aB C) (.af [I ((bD C a1 (-1)).1),I ((bD C a1 (-1)).2)]) []from vL h3 h4 (by decide))] ?_
    by_cases h5:((bD C a1 (-1)).2)=0
    ·have HE:=L5 h5
     exact(hX.to HE.symm).e [t_ (beq_iff_eq.2 h5),t_ (beq_iff_eq.2 h5),n_ 7 (f_ rf)]
    ·have HE:=K5 h5
     exact(hX.to HE.symm).e [f_ (beq_eq_false_iff_ne.2 h5),f_ (beq_eq_false_iff_ne.2 h5),n_ 7 (f_ rf)]
   ·obtain⟨L3,K3⟩:=K2 h2
    refine hX.go [f_ (beq_eq_false_iff_ne.2 h2)] ?_
    by_cases h3:a2=2
    ·obtain⟨h4,h5,L6,K6⟩:=L3 h3
     refine hX.go [t_ (beq_iff_eq.2 h3),c_ [0,1] (show S 133 [.agg [B (C.off 0),B (C.off 1),B (C.off 2),B (C.off 3),B (C.off 4),B (C.off 5),B (C.off 6), .sl 0 C.nr, .sl 1 C.nd,I 1],I a1] (aB C) (.af [I ((bD C a1 1).1),I ((bD C a1 1).2)]) []from vL h4 h5 (by decide))] ?_
     by_cases h6:((bD C a1 1).2)=0
     ·obtain⟨L7,K7⟩:=L6 h6
      refine hX.go [t_ (beq_iff_eq.2 h6),t_ (beq_iff_eq.2 h6),t_ rt,t_ rt,i_,c_ [] (fg ((bD C a1 1).1)),t_ rt,t_ rt,i_,c_ [] (fg a1),t_ rt,t_ rt] ?_
      rcases aq (((cY ((bD C a1 1).1))==(cY a1))&&(((cM ((bD C a1 1).1))==(cM a1))&&(((0:Int)==0)&&true)))with h7|h7
      ·have HE:=K7 h7
       exact(hX.to HE.symm).e [f_ (nf h7)]
      ·have HE:=L7 h7
       exact(hX.to HE.symm).e [t_ (nt h7),c_ [0,1] (show S 133 [.agg [B (C.off 0),B (C.off 1),B (C.off 2),B (C.off 3),B (C.off 4),B (C.off 5),B (C.off 6), .sl 0 C.nr, .sl 1 C.nd,I (-1)],I a1] (aB C) (.af [I ((bD C a1 (-1)).1),I ((bD C a1 (-1)).2)]) []from vL h4 h5 (by decide))]
     ·have HE:=K6 h6
      exact(hX.to HE.symm).e [f_ (beq_eq_false_iff_ne.2 h6),f_ (beq_eq_false_iff_ne.2 h6),n_ 7 (f_ rf)]
    ·obtain⟨L4,K4⟩:=K3 h3
     refine hX.go [f_ (beq_eq_false_iff_ne.2 h3)] ?_
     by_cases h4:a2=1
     ·obtain⟨h5,h6,L7,K7⟩:=L4 h4
      refine hX.go [t_ (beq_iff_eq.2 h4),c_ [0,1] (show S 133 [.agg [B (C.off 0),B (C.off 1),B (C.off 2),B (C.off 3),B (C.off 4),B (C.off 5),B (C.off 6), .sl 0 C.nr, .sl 1 C.nd,I 1],I a1] (aB C) (.af [I ((bD C a1 1).1),I ((bD C a1 1).2)]) []from vL h5 h6 (by decide))] ?_
      by_cases h7:((bD C a1 1).2)=0
      ·have HE:=L7 h7
       exact(hX.to HE.symm).e [t_ (beq_iff_eq.2 h7),t_ (beq_iff_eq.2 h7),n_ 7 (f_ rf)]
      ·have HE:=K7 h7
       exact(hX.to HE.symm).e [f_ (beq_eq_false_iff_ne.2 h7),f_ (beq_eq_false_iff_ne.2 h7),n_ 7 (f_ rf)]
     ·have HE:=K4 h4
      exact(hX.to HE.symm).e [f_ (beq_eq_false_iff_ne.2 h4)]
theorem FQ {C:Cl} {a1 a2:Int} {res:SV} (H:(a2<0→((.af [I 0,I 1]):SV)=res)∧(¬a2<0→(a2>4→((.af [I 0,I 1]):SV)=res)∧(¬a2>4→(a2=0→((ai a1)=false→((.af [I 0,I 3]):SV)=res)∧((ai a1)=true→((.af [I a1,I 0]):SV)=res))∧(a2≠0→(a2≤2→bU C∧fJ a1∧(((bD C a1 1).2)=0→(a2=2→((AW a1 ((bD C a1 1).1))=false→((.af [I ((bD C a1 ((-1))).1),I ((bD C a1 ((-1))).2)]):SV)=res)∧((AW a1 ((bD C a1 1).1))=true→((.af [I ((bD C a1 1).1),I ((bD C a1 1).2)]):SV)=res))∧(a2≠2→((.af [I ((bD C a1 1).1),I ((bD C a1 1).2)]):SV)=res))∧(((bD C a1 1).2)≠0→(a2=2→((.af [I ((bD C a1 1).1),I ((bD C a1 1).2)]):SV)=res)∧(a2≠2→((.af [I ((bD C a1 1).1),I ((bD C a1 1).2)]):SV)=res)))∧(¬a2≤2→bU C∧fJ a1∧(((bD C a1 ((-1))).2)=0→(a2=4→((AW a1 ((bD C a1 ((-1))).1))=false→((.af [I ((bD C a1 1).1),I ((bD C a1 1).2)]):SV)=res)∧((AW a1 ((bD C a1 ((-1))).1))=true→((.af [I ((bD C a1 ((-1))).1),I ((bD C a1 ((-1))).2)]):SV)=res))∧(a2≠4→((.af [I ((bD C a1 ((-1))).1),I ((bD C a1 ((-1))).2)]):SV)=res))∧(((bD C a1 ((-1))).2)≠0→(a2=4→((.af [I ((bD C a1 ((-1))).1),I ((bD C a1 ((-1))).2)]):SV)=res)∧(a2≠4→((.af [I ((bD C a1 ((-1))).1),I ((bD C a1 ((-1))).2)]):SV)=res))))))):
  S 26 [.agg [B (C.off 0),B (C.off 1),B (C.off 2),B (C.off 3),B (C.off 4),B (C.off 5),B (C.off 6), .sl 0 C.nr, .sl 1 C.nd],I a1,I a2] (aB C) (res) []:=by
 refine ab.st fun X hX=> ?_
 obtain⟨L0,K0⟩:=H
 by_cases h0:a2<0
 ·have HE:=L0 h0
  exact(hX.to HE.symm).e [n_ 3 (t_ (dt h0)),t_ rt]
 ·obtain⟨L1,K1⟩:=K0 h0
  refine hX.go [n_ 3 (f_ (df h0))] ?_
  by_cases h1:a2>4
  ·have HE:=L1 h1
   exact(hX.to HE.symm).e [t_ (dt h1)]
  ·obtain⟨L2,K2⟩:=K1 h1
   refine hX.go [f_ (df h1)] ?_
   by_cases h2:a2=0
   ·obtain⟨L3,K3⟩:=L2 h2
    refine hX.go [t_ (beq_iff_eq.2 h2),c_ [] (dk a1)] ?_
    rcases aq (ai a1)with h3|h3
    ·have HE:=K3 h3
     exact(hX.to HE.symm).e [f_ (nf h3)]
    ·have HE:=L3 h3
     exact(hX.to HE.symm).e [t_ (nt h3)]
   ·obtain⟨L3,K3⟩:=K2 h2
    refine hX.go [f_ (beq_eq_false_iff_ne.2 h2)] ?_
    by_cases h3:a2≤2
    ·obtain⟨h4,h5,L6,K6⟩:=L3 h3
     refine hX.go [t_ (dt h3),c_ [0,1] (show S 45 [.agg [B (C.off 0),B (C.off 1),B (C.off 2),B (C.off 3),B (C.off 4),B (C.off 5),B (C.off 6), .sl 0 C.nr, .sl 1 C.nd],I a1] (aB C) (.af [I ((bD C a1 1).1),I ((bD C a1 1).2)]) []from G7 h4 h5)] ?_
     by_cases h6:((bD C a1 1).2)=0
     ·obtain⟨L7,K7⟩:=L6 h6
      refine hX.go [n_ 3 (t_ (beq_iff_eq.2 h6)),c_ [] (Dx a1 ((bD C a1 1).1)),t_ (beq_iff_eq.2 h6)] ?_
      by_cases h7:a2=2
      ·obtain⟨L8,K8⟩:=L7 h7
       refine hX.go [n_ 3 (t_ (beq_iff_eq.2 h7)),n_ 3 (t_ (beq_iff_eq.2 h6))] ?_
       rcases aq (AW a1 ((bD C a1 1).1))with h8|h8
       ·have HE:=K8 h8
        exact(hX.to HE.symm).e [f_ (nf h8)]
       ·have HE:=L8 h8
        exact(hX.to HE.symm).e [t_ (nt h8),c_ [0,1] (show S 47 [.agg [B (C.off 0),B (C.off 1),B (C.off 2),B (C.off 3),B (C.off 4),B (C.off 5),B (C.off 6), .sl 0 C.nr, .sl 1 C.nd],I a1] (aB C) (.af [I ((bD C a1 ((-1))).1),I ((bD C a1 ((-1))).2)]) []from G4 h4 h5)]
      ·have HE:=K7 h7
       exact(hX.to HE.symm).e [n_ 3 (f_ (beq_eq_false_iff_ne.2 h7)),n_ 4 (f_ rf)]
     ·obtain⟨L7,K7⟩:=K6 h6
      refine hX.go [n_ 4 (f_ (beq_eq_false_iff_ne.2 h6))] ?_
      by_cases h7:a2=2
      ·have HE:=L7 h7
       exact(hX.to HE.symm).e [n_ 3 (t_ (beq_iff_eq.2 h7)),n_ 3 (f_ (beq_eq_false_iff_ne.2 h6)),f_ rf]
      ·have HE:=K7 h7
       exact(hX.to HE.symm).e [n_ 3 (f_ (beq_eq_false_iff_ne.2 h7)),n_ 4 (f_ rf)]
    ·obtain⟨h4,h5,L6,K6⟩:=K3 h3
     refine hX.go [f_ (df h3),c_ [0,1] (show S 47 [.agg [B (C.off 0),B (C.off 1),B (C.off 2),B (C.off 3),B (C.off 4),B (C.off 5),B (C.off 6), .sl 0 C.nr, .sl 1 C.nd],I a1] (aB C) (.af [I ((bD C a1 ((-1))).1),I ((bD C a1 ((-1))).2)]) []from G4 h4 h5)] ?_
     by_cases h6:((bD C a1 ((-1))).2)=0
     ·obtain⟨L7,K7⟩:=L6 h6
      refine hX.go [n_ 3 (t_ (beq_iff_eq.2 h6)),c_ [] (Dx a1 ((bD C a1 ((-1))).1)),t_ (beq_iff_eq.2 h6)] ?_
      by_cases h7:a2=4
      ·obtain⟨L8,K8⟩:=L7 h7
       refine hX.go [n_ 3 (t_ (beq_iff_eq.2 h7)),n_ 3 (t_ (beq_iff_eq.2 h6))] ?_
       rcases aq (AW a1 ((bD C a1 ((-1))).1))with h8|h8
       ·have HE:=K8 h8
        exact(hX.to HE.symm).e [f_ (nf h8)]
       ·have HE:=L8 h8
        exact(hX.to HE.symm).e [t_ (nt h8),c_ [0,1] (show S 45 [.agg [B (C.off 0),B (C.off 1),B (C.off 2),B (C.off 3),B (C.off 4),B (C.off 5),B (C.off 6), .sl 0 C.nr, .sl 1 C.nd],I a1] (aB C) (.af [I ((bD C a1 1).1),I ((bD C a1 1).2)]) []from G7 h4 h5)]
      ·have HE:=K7 h7
       exact(hX.to HE.symm).e [n_ 3 (f_ (beq_eq_false_iff_ne.2 h7)),n_ 4 (f_ rf)]
     ·obtain⟨L7,K7⟩:=K6 h6
      refine hX.go [n_ 4 (f_ (beq_eq_false_iff_ne.2 h6))] ?_
      by_cases h7:a2=4
      ·have HE:=L7 h7
       exact(hX.to HE.symm).e [n_ 3 (t_ (beq_iff_eq.2 h7)),n_ 3 (f_ (beq_eq_false_iff_ne.2 h6)),f_ rf]
      ·have HE:=K7 h7
       exact(hX.to HE.symm).e [n_ 3 (f_ (beq_eq_false_iff_ne.2 h7)),n_ 4 (f_ rf)]
theorem JH {C:Cl} {n:Int}:aD C n 0=if ai n=false then(0,3)else(n,0):=by unfold aD;rw[if_neg (by omega),if_pos rfl]
theorem HQ {C:Cl} {n:Int}:aD C n 1=bD C n 1:=by unfold aD;rw[if_neg (by omega),if_neg (by omega),if_pos (by omega),if_neg (by omega)]
theorem Fy {C:Cl} {n:Int}:aD C n 2=if(bD C n 1).2=0∧AW n (bD C n 1).1=false then bD C n (-1)else bD C n 1:=by
 grind [aD]
theorem HP {C:Cl} {n:Int}:aD C n 3=bD C n (-1):=by unfold aD;rw[if_neg (by omega),if_neg (by omega),if_neg (by omega),if_neg (by omega)]
theorem Fx {C:Cl} {n:Int}:aD C n 4=if(bD C n (-1)).2=0∧AW n (bD C n (-1)).1=false then bD C n 1 else bD C n (-1):=by
 grind [aD]
theorem HO {C:Cl} {n k:Int} (h:k<0∨k>4):aD C n k=(0,1):=by unfold aD;rw[if_pos h]
theorem JN {n m:Int}:(((cY m)==(cY n))&&(((cM m)==(cM n))&&(((0:Int)==0)&&true)))=AW n m:=by
 grind [AW]
theorem Md {C:Cl} {n k:Int} (hC:bU C) (hn:fJ n):S 106 [qY C,I n,I k] (aB C) (.af [I (aD C n k).1,I (aD C n k).2]) []:=by
 refine C7 ⟨fun z=> ?_,fun z0=>⟨fun z=> ?_,fun z4=>⟨fun z=> ?_,fun z3=>⟨fun z=> ?_,fun z2=>⟨fun z=> ?_,fun z1=> ?_⟩⟩⟩⟩⟩
 ·subst z
  rw[JH]
  refine⟨fun c=> ?_,fun c=> ?_⟩
  ·rw[if_pos (by cases h:ai n;rfl;exact absurd (pQ.2 h) c),Jm c]
  ·rw[if_neg (by rw[pQ.1 c];decide)]
 all_goals grind [JN,HQ,Fy,HP,Fx,HO]
theorem MF {C:Cl} {n k:Int} (hC:bU C) (hn:fJ n):S 26 [qY C,I n,I k] (aB C) (.af [I (aD C n k).1,I (aD C n k).2]) []:=by
 refine FQ ⟨fun z=> ?_,fun z=>⟨fun z'=> ?_,fun z'=>⟨fun z0=> ?_,fun z0=>⟨fun z2=>⟨hC,hn,fun c=>⟨fun k2=>⟨fun d=> ?_,fun d=> ?_⟩,fun k2=> ?_⟩,fun c=>⟨fun k2=> ?_,fun k2=> ?_⟩⟩,fun z2=>⟨hC,hn,fun c=>⟨fun k4=>⟨fun d=> ?_,fun d=> ?_⟩,fun k4=> ?_⟩,fun c=>⟨fun k4=> ?_,fun k4=> ?_⟩⟩⟩⟩⟩⟩
 ·rw[HO (.inl z)]
 ·rw[HO (.inr z')]
 ·grind [JH]
 ·grind [Fy]
 ·grind [Fy]
 ·obtain rfl:k=1:=by omega
  rw[HQ]
 ·grind [Fy]
 ·obtain rfl:k=1:=by omega
  rw[HQ]
 ·grind [Fx]
 ·grind [Fx]
 ·obtain rfl:k=3:=by omega
  rw[HP]
 ·grind [Fx]
 ·obtain rfl:k=3:=by omega
  rw[HP]
end Go.Proofs.YtelidogcomffkaaGreatDoor
namespace Go.Proofs.YtelidogcomffkaaGreatDoor
open Go Go.Sx
variable [dc]
structure cj where
 a1:Int
 a2:Int
 a3:Int
 a4:Int
 a5:Int
 a6:Int
 a7:Int
 a8:Bool
 a9:Bool
 ak:Bool
 ah:Int
abbrev KN (t:cj):SV:= .agg [I t.a1,I t.a2,I t.a3,I t.a4,I t.a5,I t.a6,I t.a7,B t.a8,B t.a9,B t.ak,I t.ah]
def dW (f:Nat→Int):Nat→Int
 |0=>0
 |n+1=>if dW f n≠0 then dW f n else f n
theorem fW {f:Nat→Int}: ∀ {n:Nat},(∀ i,i<n→f i=0)→dW f n=0
 |0,_=>rfl
 |n+1,h=>by unfold dW;rw[fW (fun i hi=>h i (by omega)),if_neg (by decide)];exact h n (by omega)
theorem gY {f:Nat→Int} {i:Nat} (hj: ∀ j,j<i→f j=0) (hi:f i≠0): ∀ {n:Nat},i<n→dW f n=f i
 |0,h=>absurd h (Nat.not_lt_zero _)
 |n+1,h=>by
  unfold dW
  rcases Nat.lt_or_ge i n with c|c
  ·rw[gY hj hi c,if_pos hi]
  grind [fW]
def fO (t:cj):Int:=rQ t.a1 t.a2 t.a3 t.a4 t.a5 t.a6 t.a7 t.ah
def tN (t:cj):Nat:=dN t.a1 t.a2 t.a3 t.a4 t.a5 t.a6 t.a7 t.a8 t.a9 t.ak t.ah
def tD (t:cj) (i:Nat):Int:=dV t.a5 t.a6 t.a7 t.a9 t.a8 t.ak i
def tG (t:cj):Nat:=Af t.a1 t.a2 t.a3 t.a4 t.a5 t.a6 t.a7 t.a8 t.ak t.ah
def tV (t:cj) (i:Nat):Int:=oF t.a5 t.a6 t.a7 t.a8 t.ak i
def xk (t:cj):Prop:=fO t=0→t.a6-t.a5≤6200*t.a7
noncomputable def tR (t:cj) (C:Cl) (i:Nat):Int×Int:=aD C (tD t i) t.ah
noncomputable def tQ (t:cj) (C:Cl) (i:Nat):Int×Int:=aD C (tV t i) t.ah
noncomputable def tE (t:cj) (C:Cl):Int:=(tR t C (tN t-1)).1
def tK (t:cj):Nat:=if t.a4=6 then tG t else 0
noncomputable def tP (t:cj) (C:Cl) (i:Nat):Int×Int×Int:=al t.a4 (tR t C i).1 (tR t C (i+1)).1 t.ak (tE t C) (br t.a7) (tK t) (fun i=>(tQ t C i).1)
noncomputable def bF (t:cj) (C:Cl):Int:=if fO t≠0 then fO t else if dW (fun i=>(tR t C i).2) (tN t)≠0 then dW (fun i=>(tR t C i).2) (tN t)else
 if t.a4=6∧dW (fun i=>(tQ t C i).2) (tG t)≠0 then dW (fun i=>(tQ t C i).2) (tG t)else dW (fun i=>(tP t C i).2.2) (tN t-1)
noncomputable def eA (t:cj) (C:Cl):Nat:=if bF t C=0 then tN t else 0
noncomputable def DL (t:cj) (C:Cl):Bool:=if bF t C=0 then t.ak else false
noncomputable def DK (t:cj) (C:Cl):Int:=if bF t C=0 then tE t C else 0
noncomputable def DJ (t:cj) (C:Cl):Int:=if bF t C=0 then br t.a7 else 0
noncomputable def uM (t:cj) (C:Cl):Nat:=if bF t C=0 then tK t else 0
noncomputable def Bi (t:cj) (C:Cl) (e:Int):SV:= .af [.agg [.sl 2 (eA t C), .sl 3 (eA t C), .sl 4 (eA t C-1),B (DL t C),I (DK t C),I (DJ t C), .sl 5 (uM t C)],I e]
noncomputable def zt (n:Nat) (p:Nat→Int×Int×Int):Option Vw:=some (.row true 121 n 2 (fun i=>[I (p i).1,I (p i).2.1]))
noncomputable def zC (t:cj) (C:Cl):List (Option Vw):=[ro (eA t C) (tD t),ro (eA t C) (fun i=>(tR t C i).1),zt (eA t C-1) (tP t C),ro (uM t C) (fun i=>(tQ t C i).1)]
theorem iG {t:cj} (h:fO t=0):oj t.a5 t.a6 t.a7:=oi h
theorem GG {t:cj} (h:fO t=0):tN t=dM t.a5 t.a6 t.a7 t.a9 t.a8 t.ak+2:=Kt h
theorem GH {t:cj} (h:fO t=0):tG t=gN t.a5 t.a6 t.a7 t.a8 t.ak:=I5 h
theorem kv {t:cj} (h:fO t=0) (hs:xk t):2≤tN t∧tN t≤252:=by
 have hL:=iG h
 have a:=rL (back:=t.a8) (eom:=t.ak) hL (hs h)
 have b:=(pg (back:=t.a8) (eom:=t.ak) hL (hs h)).2
 have c:=EF (s:=t.a5) (e:=t.a6) (mo:=t.a7) (long:=t.a9) (back:=t.a8) (eom:=t.ak)
 rw[GG h];omega
theorem AR {t:cj} (h:fO t=0) (hs:xk t):1≤tG t∧tG t≤250:=by rw[GH h];exact pg (iG h) (hs h)
theorem sV {t:cj} (h:fO t=0) (hs:xk t) {i:Nat} (hi:i<tN t):ai (tD t i)=true:=by
 have hL:=iG h
 have d1:=aP.1 hL.ds
 have d2:=aP.1 hL.de
 rw[GG h]at hi
 unfold tD
 rcases Nat.eq_zero_or_pos i with rfl|c
 ·rw[BL];exact hL.ds
 ·rcases Nat.lt_or_ge (dM t.a5 t.a6 t.a7 t.a9 t.a8 t.ak) i with d|d
  ·rw[show i=dM t.a5 t.a6 t.a7 t.a9 t.a8 t.ak+1 by omega,BM];exact hL.de
  ·have:=Jg (long:=t.a9) (back:=t.a8) (eom:=t.ak) hL (hs h) c d
   exact aP.2 (by omega)
theorem ze {t:cj} (h:fO t=0) (hs:xk t) {i:Nat} (hi:i<tG t):ai (tV t i)=true:=by
 have hL:=iG h
 rw[GH h]at hi
 obtain⟨q1, -, -⟩:=Ht (back:=t.a8) (eom:=t.ak) hL (hs h)
 have key: ∀ j,j<gN t.a5 t.a6 t.a7 t.a8 t.ak→ai (mw t.a5 t.a6 t.a7 t.a8 t.ak j).1=true:=by
  intro j hj
  have z:=q1 j hj
  unfold mw at z⊢
  by_cases hb:t.a8=true
  ·rw[if_pos hb]at z⊢;exact DV z
  ·rw[if_neg hb]at z⊢;exact DV z
 unfold tV oF
 grind
theorem av.Lq {X:Cx} {f:FuncId} {hp0:List (Option Vw)} {g1 g2 g4:Nat→Int} {p:Nat→Int×Int×Int} {e:Int} (h2:hp0.length=2)
  (hX:Fi X f hp0 (.af [.agg [.sl 2 0, .sl 3 0, .sl 4 0,B false,I 0,I 0, .sl 5 0],I e]) [ro 0 g1,ro 0 g2,zt 0 p,ro 0 g4]):
  Fi X f hp0 (.af [.agg [.val (.slice none 0 0), .val (.slice none 0 0), .val (.slice none 0 0),B false,I 0,I 0, .val (.slice none 0 0)],I e]) []:=by
 have s1:=av.zH (new:=[ro 0 g1,ro 0 g2,zt 0 p]) (res':= .af [.agg [.sl 2 0, .sl 3 0, .sl 4 0,B false,I 0,I 0, .val (.slice none 0 0)],I e]) hX (fun θ' h=>by
  rw[h2]at h;have h:θ' 5=_:=h;simp only[den,ax,h])
 have s2:=av.zH (new:=[ro 0 g1,ro 0 g2]) (res':= .af [.agg [.sl 2 0, .sl 3 0, .val (.slice none 0 0),B false,I 0,I 0, .val (.slice none 0 0)],I e]) s1 (fun θ' h=>by
  rw[h2]at h;have h:θ' 4=_:=h;simp only[den,ax,h])
 have s3:=av.zH (new:=[ro 0 g1]) (res':= .af [.agg [.sl 2 0, .val (.slice none 0 0), .val (.slice none 0 0),B false,I 0,I 0, .val (.slice none 0 0)],I e]) s2 (fun θ' h=>by
  rw[h2]at h;have h:θ' 3=_:=h;simp only[den,ax,h])
 exact av.zH (new:=[]) s3 (fun θ' h=>by
  rw[h2]at h;have h:θ' 2=_:=h;simp only[den,ax,h])
theorem fk {X:Cx} {t:cj} {C:Cl} {f:FuncId} {hp0:List (Option Vw)} (h2:hp0.length=2) (hX:Fi X f hp0 (Bi t C (bF t C)) (zC t C)) (h:bF t C≠0):
  Fi X f hp0 (.af [.agg [.val (.slice none 0 0), .val (.slice none 0 0), .val (.slice none 0 0),B false,I 0,I 0, .val (.slice none 0 0)],I (bF t C)]) []:=by
 unfold Bi zC at hX
 rw[show eA t C=0 from if_neg h,show DL t C=false from if_neg h,show DK t C=0 from if_neg h,show DJ t C=0 from if_neg h,show uM t C=0 from if_neg h]at hX
 exact av.Lq h2 hX
theorem pY {X:Cx} {t:cj} {C:Cl} {f:FuncId} {hp0:List (Option Vw)} (hX:Fi X f hp0 (Bi t C (bF t C)) (zC t C)) (h:bF t C=0):
  Fi X f hp0 (.af [.agg [.sl 2 (tN t), .sl 3 (tN t), .sl 4 (tN t-1),B t.ak,I (tE t C),I (br t.a7), .sl 5 (tK t)],I 0]) [ro (tN t) (tD t),ro (tN t) (fun i=>(tR t C i).1),zt (tN t-1) (tP t C),ro (tK t) (fun i=>(tQ t C i).1)]:=by
 grind [DL,DK,DJ,uM,eA,Bi,zC,tE,tK,tN]
noncomputable def H0 (t:cj) (C:Cl):SC:=
 ⟨[⟨31,bJ 47 [(4, .ptr 4 0),(5, .ptr 5 0),(6, .ptr 7 0),(15, .fn (.func 49) [] [.ptr 5 0, .ptr 7 0, .ptr 4 0])],[.inRegion (aU Tryz.f31 [1,1,0]) [1], .code (aa Tryz.f31 [1,1,1])],{}⟩],(aB C++[none,none,some (.box true [.val (.slice none 0 0), .val (.slice none 0 0), .val (.slice none 0 0),B false,I 0,I 0, .val (.slice none 0 0)]),some (.box true [I 0]),some (.box true [I t.a1,I t.a2,I t.a3,I t.a4,I t.a5,I t.a6,I t.a7,B t.a8,B t.a9,B t.ak,I t.ah,B (C.off 0),B (C.off 1),B (C.off 2),B (C.off 3),B (C.off 4),B (C.off 5),B (C.off 6), .sl 0 C.nr, .sl 1 C.nd, .val (.slice none 0 0), .val (.slice none 0 0), .val (.slice none 0 0),B false,I 0,I 0, .val (.slice none 0 0)]),some (.box true [.ptr 6 0])])⟩
theorem HZ {X:Cx} {t:cj} {C:Cl} {res:SV} {new:List (Option Vw)} (hX:Fi X 31 (aB C) (res) new) (H:Ok X (H0 t C)):
  Ok X (entry Tryz.prog 31 [.agg [I t.a1,I t.a2,I t.a3,I t.a4,I t.a5,I t.a6,I t.a7,B t.a8,B t.a9,B t.ak,I t.ah], .agg [B (C.off 0),B (C.off 1),B (C.off 2),B (C.off 3),B (C.off 4),B (C.off 5),B (C.off 6), .sl 0 C.nr, .sl 1 C.nd]] (aB C)):=by
 have k:=H
 exact hX.h 19 [] [.ae 0, .ae 1, .ae 1002, .ae 1003, .ae 4, .ae 5, .ae 6, .ae 7] k
noncomputable def Lh (t:cj) (C:Cl) (θ1:Th):SC:=
 ⟨[⟨31,bJ 47 [(4, .ptr 4 0),(5, .ptr 5 0),(6, .ptr 7 0),(15, .fn (.func 49) [] [.ptr 5 0, .ptr 7 0, .ptr 4 0])],[.inRegion (aU Tryz.f31 [1,1,0]) [], .code (aa Tryz.f31 [1,1,1])],⟨none,[{target:= .fn (.func 49) (ax θ1 [.ptr 5 0, .ptr 7 0, .ptr 4 0]).toArray,args:= #[]}],false⟩⟩],(aB C++[none,none,some (.box true [.val (.slice none 0 0), .val (.slice none 0 0), .val (.slice none 0 0),B false,I 0,I 0, .val (.slice none 0 0)]),some (.box true [I 0]),some (.box true [I t.a1,I t.a2,I t.a3,I t.a4,I t.a5,I t.a6,I t.a7,B t.a8,B t.a9,B t.ak,I t.ah,B (C.off 0),B (C.off 1),B (C.off 2),B (C.off 3),B (C.off 4),B (C.off 5),B (C.off 6), .sl 0 C.nr, .sl 1 C.nd, .val (.slice none 0 0), .val (.slice none 0 0), .val (.slice none 0 0),B false,I 0,I 0, .val (.slice none 0 0)]),some (.box true [.ptr 6 0])])⟩
noncomputable def GW (t:cj) (C:Cl) (θ1:Th) (x1:Int):SC:=
 ⟨[⟨31,bJ 47 [(4, .ptr 4 0),(5, .ptr 5 0)],[.code (aa Tryz.f31 [1,1,1,1,0,1,0,0,1,1,0,0,1,1,1,0,1]), .inBlock 1, .code (aa Tryz.f31 [1,1,1,1,0,1,0,0,1,1,1]), .inLoop (aa Tryz.f31 [1,1,1,1,0,1,0,0]), .inBlock 0, .code (aa Tryz.f31 [1,1,1,1,1])],⟨none,[{target:= .fn (.func 49) (ax θ1 [.ptr 5 0, .ptr 7 0, .ptr 4 0]).toArray,args:= #[]}],false⟩⟩],(aB C++[none,none,some (.box true [.val (.slice none 0 0), .val (.slice none 0 0), .val (.slice none 0 0),B false,I 0,I 0, .val (.slice none 0 0)]),some (.box true [I x1]),some (.box true [I t.a1,I t.a2,I t.a3,I t.a4,I t.a5,I t.a6,I t.a7,B t.a8,B t.a9,B t.ak,I t.ah,B (C.off 0),B (C.off 1),B (C.off 2),B (C.off 3),B (C.off 4),B (C.off 5),B (C.off 6), .sl 0 C.nr, .sl 1 C.nd, .sl 10 (tN t), .val (.slice none 0 0), .val (.slice none 0 0),B false,I 0,I 0, .val (.slice none 0 0)]),some (.box true [.ptr 6 0]),none,none,some (.row true 3 (tN t) 1 (fun i=>[I (tD t i)]))])⟩
noncomputable def A3 (t:cj) (C:Cl) (θ1:Th) (x1:Int) (n11_:Nat) (g1111:Nat→Int) (n12_:Nat) (g1121:Nat→Int) (g1122:Nat→Int) (n13_:Nat) (g1131:Nat→Int):SC:=
 ⟨[⟨76,bJ 40 [(0, .ptr 6 0),(6, .sl 11 n11_),(11, .sl 10 (tN t)),(12,I (((tN t):Nat):Int)),(13,I x1)],[.code (aa Tryz.f76 [1,1,0,1,0,0]), .inLoop (aa Tryz.f76 [1,1,0,1,0,0]), .inBlock 0, .code (aa Tryz.f76 [1,1,1])],{}⟩,⟨51,bJ 18 [(4, .ptr 6 0),(5, .ptr 6 0),(10, .sl 10 (tN t))],[.inRegion (aU Tryz.f51 [1,0]) [7,8,9,10,11,12,13,14,15], .code (aa Tryz.f51 [1,1])],{}⟩,⟨31,bJ 47 [(4, .ptr 4 0),(5, .ptr 5 0),(33, .sl 9 4),(34,I 4),(35,I 1),(39, .fn (.func 51) [.ptr 6 0] [])],[.inRegion (aU Tryz.f31 [1,1,1,1,0,1,0,0,1,1,0,0,1,0]) [1,2], .code (aa Tryz.f31 [1,1,1,1,0,1,0,0,1,1,0,0,1,1]), .inBlock 1, .code (aa Tryz.f31 [1,1,1,1,0,1,0,0,1,1,1]), .inLoop (aa Tryz.f31 [1,1,1,1,0,1,0,0]), .inBlock 0, .code (aa Tryz.f31 [1,1,1,1,1])],⟨none,[{target:= .fn (.func 49) (ax θ1 [.ptr 5 0, .ptr 7 0, .ptr 4 0]).toArray,args:= #[]}],false⟩⟩],(aB C++[none,none,some (.box true [.val (.slice none 0 0), .val (.slice none 0 0), .val (.slice none 0 0),B false,I 0,I 0, .val (.slice none 0 0)]),some (.box true [I 0]),some (.box true [I t.a1,I t.a2,I t.a3,I t.a4,I t.a5,I t.a6,I t.a7,B t.a8,B t.a9,B t.ak,I t.ah,B (C.off 0),B (C.off 1),B (C.off 2),B (C.off 3),B (C.off 4),B (C.off 5),B (C.off 6), .sl 0 C.nr, .sl 1 C.nd, .sl 10 (tN t), .val (.slice none 0 0), .sl 12 n12_,B false,I 0,I 0, .sl 13 n13_]),some (.box true [.ptr 6 0]),none,some (.row true 113 4 1 (a_ [[.fn (.func 50) [.ptr 6 0] []],[.fn (.func 51) [.ptr 6 0] []],[.fn (.func 52) [.ptr 6 0] []],[.fn (.func 53) [.ptr 6 0] []]])),some (.row true 3 (tN t) 1 (fun i=>[I (tD t i)])),ro n11_ g1111,some (.row true 121 n12_ 2 (fun i=>[I (g1121 i),I (g1122 i)])),ro n13_ g1131])⟩
noncomputable def GV (t:cj) (C:Cl) (θ1:Th) (x1:Int) (n12_:Nat) (g1121:Nat→Int) (g1122:Nat→Int) (n13_:Nat) (g1131:Nat→Int):SC:=
 ⟨[⟨31,bJ 47 [(4, .ptr 4 0),(5, .ptr 5 0)],[.code (aa Tryz.f31 [1,1,1,1,0,1,0,0,1,1,0,0,1,1,1,0,1]), .inBlock 1, .code (aa Tryz.f31 [1,1,1,1,0,1,0,0,1,1,1]), .inLoop (aa Tryz.f31 [1,1,1,1,0,1,0,0]), .inBlock 0, .code (aa Tryz.f31 [1,1,1,1,1])],⟨none,[{target:= .fn (.func 49) (ax θ1 [.ptr 5 0, .ptr 7 0, .ptr 4 0]).toArray,args:= #[]}],false⟩⟩],(aB C++[none,none,some (.box true [.val (.slice none 0 0), .val (.slice none 0 0), .val (.slice none 0 0),B false,I 0,I 0, .val (.slice none 0 0)]),some (.box true [I x1]),some (.box true [I t.a1,I t.a2,I t.a3,I t.a4,I t.a5,I t.a6,I t.a7,B t.a8,B t.a9,B t.ak,I t.ah,B (C.off 0),B (C.off 1),B (C.off 2),B (C.off 3),B (C.off 4),B (C.off 5),B (C.off 6), .sl 0 C.nr, .sl 1 C.nd, .sl 10 (tN t), .val (.slice none 0 0), .sl 12 n12_,B false,I 0,I 0, .sl 13 n13_]),some (.box true [.ptr 6 0]),none,none,some (.row true 3 (tN t) 1 (fun i=>[I (tD t i)])),none,some (.row true 121 n12_ 2 (fun i=>[I (g1121 i),I (g1122 i)])),ro n13_ g1131])⟩
noncomputable def A2 (t:cj) (C:Cl) (θ1:Th) (x1:Int) (x2:Int) (n11_:Nat) (g1111:Nat→Int) (n12_:Nat) (g1121:Nat→Int) (g1122:Nat→Int) (n15_:Nat) (g1151:Nat→Int) (n16_:Nat) (g1161:Nat→Int):SC:=
 ⟨[⟨76,bJ 40 [(0, .ptr 6 0),(6, .sl 15 n15_),(11, .sl 14 (tG t)),(12,I (((tG t):Nat):Int)),(13,I x1)],[.code (aa Tryz.f76 [1,1,0,1,0,0]), .inLoop (aa Tryz.f76 [1,1,0,1,0,0]), .inBlock 0, .code (aa Tryz.f76 [1,1,1])],{}⟩,⟨52,bJ 61 [(50, .ptr 6 0),(51, .ptr 6 0),(52, .sl 14 (tG t))],[.inRegion (aU Tryz.f52 [1,1,0,1,0,1]) [3,4,5,6,7,8,9,10,11,12], .code (aa Tryz.f52 [1,1,1])],{}⟩,⟨31,bJ 47 [(4, .ptr 4 0),(5, .ptr 5 0),(33, .sl 9 4),(34,I 4),(35,I 2),(39, .fn (.func 52) [.ptr 6 0] [])],[.inRegion (aU Tryz.f31 [1,1,1,1,0,1,0,0,1,1,0,0,1,0]) [1,2], .code (aa Tryz.f31 [1,1,1,1,0,1,0,0,1,1,0,0,1,1]), .inBlock 1, .code (aa Tryz.f31 [1,1,1,1,0,1,0,0,1,1,1]), .inLoop (aa Tryz.f31 [1,1,1,1,0,1,0,0]), .inBlock 0, .code (aa Tryz.f31 [1,1,1,1,1])],⟨none,[{target:= .fn (.func 49) (ax θ1 [.ptr 5 0, .ptr 7 0, .ptr 4 0]).toArray,args:= #[]}],false⟩⟩],(aB C++[none,none,some (.box true [.val (.slice none 0 0), .val (.slice none 0 0), .val (.slice none 0 0),B false,I 0,I 0, .val (.slice none 0 0)]),some (.box true [I 0]),some (.box true [I t.a1,I t.a2,I t.a3,I t.a4,I t.a5,I t.a6,I t.a7,B t.a8,B t.a9,B t.ak,I t.ah,B (C.off 0),B (C.off 1),B (C.off 2),B (C.off 3),B (C.off 4),B (C.off 5),B (C.off 6), .sl 0 C.nr, .sl 1 C.nd, .sl 10 (tN t), .sl 11 n11_, .sl 12 n12_,B t.ak,I x2,I (br t.a7), .sl 16 n16_]),some (.box true [.ptr 6 0]),none,some (.row true 113 4 1 (a_ [[.fn (.func 50) [.ptr 6 0] []],[.fn (.func 51) [.ptr 6 0] []],[.fn (.func 52) [.ptr 6 0] []],[.fn (.func 53) [.ptr 6 0] []]])),some (.row true 3 (tN t) 1 (fun i=>[I (tD t i)])),ro n11_ g1111,some (.row true 121 n12_ 2 (fun i=>[I (g1121 i),I (g1122 i)])),none,some (.row true 3 (tG t) 1 (fun i=>[I (tV t i)])),ro n15_ g1151,ro n16_ g1161])⟩
noncomputable def s4 (t:cj) (C:Cl) (θ1:Th) (x1:Int) (x2:Int) (n11_:Nat) (g1111:Nat→Int) (n12_:Nat) (g1121:Nat→Int) (g1122:Nat→Int) (n13_:Nat) (g1131:Nat→Int):SC:=
 ⟨[⟨53,bJ 62 [(0, .ptr 6 0),(3,I x1)],[.code (aa Tryz.f53 [1,0,1,0,0]), .inLoop (aa Tryz.f53 [1,0,1,0,0]), .inBlock 0, .code (aa Tryz.f53 [1,1])],{}⟩,⟨31,bJ 47 [(4, .ptr 4 0),(5, .ptr 5 0),(33, .sl 9 4),(34,I 4),(35,I 3),(39, .fn (.func 53) [.ptr 6 0] [])],[.inRegion (aU Tryz.f31 [1,1,1,1,0,1,0,0,1,1,0,0,1,0]) [1,2], .code (aa Tryz.f31 [1,1,1,1,0,1,0,0,1,1,0,0,1,1]), .inBlock 1, .code (aa Tryz.f31 [1,1,1,1,0,1,0,0,1,1,1]), .inLoop (aa Tryz.f31 [1,1,1,1,0,1,0,0]), .inBlock 0, .code (aa Tryz.f31 [1,1,1,1,1])],⟨none,[{target:= .fn (.func 49) (ax θ1 [.ptr 5 0, .ptr 7 0, .ptr 4 0]).toArray,args:= #[]}],false⟩⟩],(aB C++[none,none,some (.box true [.val (.slice none 0 0), .val (.slice none 0 0), .val (.slice none 0 0),B false,I 0,I 0, .val (.slice none 0 0)]),some (.box true [I 0]),some (.box true [I t.a1,I t.a2,I t.a3,I t.a4,I t.a5,I t.a6,I t.a7,B t.a8,B t.a9,B t.ak,I t.ah,B (C.off 0),B (C.off 1),B (C.off 2),B (C.off 3),B (C.off 4),B (C.off 5),B (C.off 6), .sl 0 C.nr, .sl 1 C.nd, .sl 10 (tN t), .sl 11 n11_, .sl 12 n12_,B t.ak,I x2,I (br t.a7), .sl 13 n13_]),some (.box true [.ptr 6 0]),none,some (.row true 113 4 1 (a_ [[.fn (.func 50) [.ptr 6 0] []],[.fn (.func 51) [.ptr 6 0] []],[.fn (.func 52) [.ptr 6 0] []],[.fn (.func 53) [.ptr 6 0] []]])),some (.row true 3 (tN t) 1 (fun i=>[I (tD t i)])),ro n11_ g1111,some (.row true 121 n12_ 2 (fun i=>[I (g1121 i),I (g1122 i)])),ro n13_ g1131])⟩
noncomputable def GU (t:cj) (C:Cl) (θ1:Th) (x1:Int) (x2:Int) (n11_:Nat) (g1111:Nat→Int) (n12_:Nat) (g1121:Nat→Int) (g1122:Nat→Int):SC:=
 ⟨[⟨31,bJ 47 [(4, .ptr 4 0),(5, .ptr 5 0)],[.code (aa Tryz.f31 [1,1,1,1,0,1,0,0,1,1,0,0,1,1,1,0,1]), .inBlock 1, .code (aa Tryz.f31 [1,1,1,1,0,1,0,0,1,1,1]), .inLoop (aa Tryz.f31 [1,1,1,1,0,1,0,0]), .inBlock 0, .code (aa Tryz.f31 [1,1,1,1,1])],⟨none,[{target:= .fn (.func 49) (ax θ1 [.ptr 5 0, .ptr 7 0, .ptr 4 0]).toArray,args:= #[]}],false⟩⟩],(aB C++[none,none,some (.box true [.val (.slice none 0 0), .val (.slice none 0 0), .val (.slice none 0 0),B false,I 0,I 0, .val (.slice none 0 0)]),some (.box true [I x1]),some (.box true [I t.a1,I t.a2,I t.a3,I t.a4,I t.a5,I t.a6,I t.a7,B t.a8,B t.a9,B t.ak,I t.ah,B (C.off 0),B (C.off 1),B (C.off 2),B (C.off 3),B (C.off 4),B (C.off 5),B (C.off 6), .sl 0 C.nr, .sl 1 C.nd, .sl 10 (tN t), .sl 11 n11_, .sl 12 n12_,B t.ak,I x2,I (br t.a7), .val (.slice none 0 0)]),some (.box true [.ptr 6 0]),none,none,some (.row true 3 (tN t) 1 (fun i=>[I (tD t i)])),ro n11_ g1111,some (.row true 121 n12_ 2 (fun i=>[I (g1121 i),I (g1122 i)]))])⟩
noncomputable def GS (t:cj) (C:Cl) (θ1:Th) (x1:Int) (x2:Int) (n11_:Nat) (g1111:Nat→Int) (n12_:Nat) (g1121:Nat→Int) (g1122:Nat→Int) (n13_:Nat) (g1131:Nat→Int):SC:=
 ⟨[⟨31,bJ 47 [(4, .ptr 4 0),(5, .ptr 5 0)],[.code (aa Tryz.f31 [1,1,1,1,0,1,0,0,1,1,0,0,1,1,1,0,1]), .inBlock 1, .code (aa Tryz.f31 [1,1,1,1,0,1,0,0,1,1,1]), .inLoop (aa Tryz.f31 [1,1,1,1,0,1,0,0]), .inBlock 0, .code (aa Tryz.f31 [1,1,1,1,1])],⟨none,[{target:= .fn (.func 49) (ax θ1 [.ptr 5 0, .ptr 7 0, .ptr 4 0]).toArray,args:= #[]}],false⟩⟩],(aB C++[none,none,some (.box true [.val (.slice none 0 0), .val (.slice none 0 0), .val (.slice none 0 0),B false,I 0,I 0, .val (.slice none 0 0)]),some (.box true [I x1]),some (.box true [I t.a1,I t.a2,I t.a3,I t.a4,I t.a5,I t.a6,I t.a7,B t.a8,B t.a9,B t.ak,I t.ah,B (C.off 0),B (C.off 1),B (C.off 2),B (C.off 3),B (C.off 4),B (C.off 5),B (C.off 6), .sl 0 C.nr, .sl 1 C.nd, .sl 10 (tN t), .sl 11 n11_, .sl 12 n12_,B t.ak,I x2,I (br t.a7), .sl 13 n13_]),some (.box true [.ptr 6 0]),none,none,some (.row true 3 (tN t) 1 (fun i=>[I (tD t i)])),ro n11_ g1111,some (.row true 121 n12_ 2 (fun i=>[I (g1121 i),I (g1122 i)])),ro n13_ g1131])⟩
noncomputable def GR (t:cj) (C:Cl) (θ1:Th) (x1:Int) (n11_:Nat) (g1111:Nat→Int) (n12_:Nat) (g1121:Nat→Int) (g1122:Nat→Int) (n13_:Nat) (g1131:Nat→Int):SC:=
 ⟨[⟨31,bJ 47 [(4, .ptr 4 0),(5, .ptr 5 0)],[.code (aa Tryz.f31 [1,1,1,1,1,1])],⟨none,[{target:= .fn (.func 49) (ax θ1 [.ptr 5 0, .ptr 7 0, .ptr 4 0]).toArray,args:= #[]}],false⟩⟩],(aB C++[none,none,some (.box true [.val (.slice none 0 0), .val (.slice none 0 0), .val (.slice none 0 0),B false,I 0,I 0, .val (.slice none 0 0)]),some (.box true [I 0]),some (.box true [I t.a1,I t.a2,I t.a3,I t.a4,I t.a5,I t.a6,I t.a7,B t.a8,B t.a9,B t.ak,I t.ah,B (C.off 0),B (C.off 1),B (C.off 2),B (C.off 3),B (C.off 4),B (C.off 5),B (C.off 6), .sl 0 C.nr, .sl 1 C.nd, .sl 10 (tN t), .sl 11 n11_, .sl 12 n12_,B t.ak,I x1,I (br t.a7), .sl 13 n13_]),some (.box true [.ptr 6 0]),none,none,some (.row true 3 (tN t) 1 (fun i=>[I (tD t i)])),ro n11_ g1111,some (.row true 121 n12_ 2 (fun i=>[I (g1121 i),I (g1122 i)])),ro n13_ g1131])⟩
theorem JX {X:Cx} {t:cj} {C:Cl} {θ1:Th} (hX:pV X Tryz.prog GL 8) (H:(fO t=0→t.a6-t.a5≤6200*t.a7)∧((fO t)≠0→Ok X (GW t C θ1 (fO t)))∧((fO t)=0→Ok X (A3 t C θ1 0 0 (fun _=>default) 0 (fun _=>default) (fun _=>default) 0 (fun _=>default)))):
  Ok X (Lh t C θ1):=by
 obtain⟨h0,L1,K1⟩:=H
 refine hX.go [q_ (show ∀ k,k<4→(a_ [[.fn (.func 50) [.ptr 6 0] []],[.fn (.func 51) [.ptr 6 0] []],[.fn (.func 52) [.ptr 6 0] []],[.fn (.func 53) [.ptr 6 0] []]]) k=[[.fn (.func 50) [.ptr 6 0] []],[.fn (.func 51) [.ptr 6 0] []],[.fn (.func 52) [.ptr 6 0] []],[.fn (.func 53) [.ptr 6 0] []]].getD k []from by intro k hk;match k,hk with|0,_=>rfl|1,_=>rfl|2,_=>rfl|3,_=>rfl|k+4,hk=>omega),h_ [.row (a_ [[.fn (.func 50) [.ptr 6 0] []],[.fn (.func 51) [.ptr 6 0] []],[.fn (.func 52) [.ptr 6 0] []],[.fn (.func 53) [.ptr 6 0] []]])],t_ rt,q_ (show(0:Int)≤0∧0<((4:Nat):Int)from by decide),q_ (re 4),q_ (show(0:Int)≤0∧0<((4:Nat):Int)from by decide),i_,c_ [] (show S 75 [.agg [I t.a1,I t.a2,I t.a3,I t.a4,I t.a5,I t.a6,I t.a7,B t.a8,B t.a9,B t.ak,I t.ah]] [] (.af [.sl 0 (tN t),I (fO t)]) [some (.row true 3 (tN t) 1 (fun i=>[I (tD t i)]))]from MP _ _ _ _ _ _ _ _ _ _ _ h0)] ?_
 by_cases h1:(fO t)=0
 ·have k:=K1 h1
  exact hX.hr 59 [f_ (bne_eq_false_iff_eq.2 h1),q_ (show Ir 1 from by decide),t_ rt,q_ (show(0:Int)≤1∧1<((4:Nat):Int)from by decide),q_ (re 4),q_ (show(0:Int)≤1∧1<((4:Nat):Int)from by decide),i_,i_] [.ae 0, .ae 1, .ae 2, .ae 3, .ae 4, .ae 5, .ae 6, .ae 7, .ae 1008, .ae 9, .ae 10, .nil 1, .nil 2, .nil 1] 9 113 [[.fn (.func 50) [.ptr 6 0] []],[.fn (.func 51) [.ptr 6 0] []],[.fn (.func 52) [.ptr 6 0] []],[.fn (.func 53) [.ptr 6 0] []]] k
 ·have k:=L1 h1
  exact hX.h 8 [t_ (bne_iff_ne.2 h1)] [.ae 0, .ae 1, .ae 2, .ae 3, .ae 4, .ae 5, .ae 6, .ae 7, .ae 1008, .ae 1009, .ae 10] k
theorem GQ {X:Cx} {t:cj} {C:Cl} {θ1:Th} {x1:Int} {n11_:Nat} {g1111:Nat→Int} {n12_:Nat} {g1121 g1122:Nat→Int} {n13_:Nat} {g1131:Nat→Int} (hX:pV X Tryz.prog GL 8) (H:(x1<(((tN t):Nat):Int)→((0:Int)≤x1∧x1<(((tN t):Nat):Int))∧bU C∧fJ (tD t x1.toNat)∧(((aD C (tD t x1.toNat) t.ah).2)≠0→Ok X (GV t C θ1 ((aD C (tD t x1.toNat) t.ah).2) n12_ g1121 g1122 n13_ g1131))∧(((aD C (tD t x1.toNat) t.ah).2)=0→ ∃ q5002:Nat→Int,(∀ k,k<(n11_+1)→q5002 k=if k<n11_ then(g1111 k)else((aD C (tD t x1.toNat) t.ah).1))∧(n11_+1)*8≤140737488355328∧Ir (x1+1)∧Ok X (A3 t C θ1 (x1+1) (n11_+1) q5002 n12_ g1121 g1122 n13_ g1131)))∧(¬x1<(((tN t):Nat):Int)→Ir (((n11_:Nat):Int)-1)∧((0:Int)≤(((n11_:Nat):Int)-1)∧(((n11_:Nat):Int)-1)<((n11_:Nat):Int))∧(t.a4=6→(fO t=0→t.a6-t.a5≤6200*t.a7)∧Ok X (A2 t C θ1 0 (g1111 ((((n11_:Nat):Int)-1).toNat)) n11_ g1111 n12_ g1121 g1122 0 (fun _=>default) 0 (fun _=>default)))∧(t.a4≠6→Ok X (s4 t C θ1 1 (g1111 ((((n11_:Nat):Int)-1).toNat)) n11_ g1111 n12_ g1121 g1122 0 (fun _=>default))))):
  Ok X (A3 t C θ1 x1 n11_ g1111 n12_ g1121 g1122 n13_ g1131):=by
 obtain⟨L0,K0⟩:=H
 by_cases h0:x1<(((tN t):Nat):Int)
 ·obtain⟨h1,h2,h3,L4,K4⟩:=L0 h0
  refine hX.go [t_ (dt h0),q_ h1,q_ (show(tN t)=(tN t)from rfl),q_ h1,d_ 15,c_ [0,1] (show S 106 [.agg [B (C.off 0),B (C.off 1),B (C.off 2),B (C.off 3),B (C.off 4),B (C.off 5),B (C.off 6), .sl 0 C.nr, .sl 1 C.nd],I (tD t x1.toNat),I t.ah] (aB C) (.af [I ((aD C (tD t x1.toNat) t.ah).1),I ((aD C (tD t x1.toNat) t.ah).2)]) []from Md h2 h3)] ?_
  by_cases h4:((aD C (tD t x1.toNat) t.ah).2)=0
  ·obtain⟨q5002,h5,h6,h7,k⟩:=K4 h4
   exact hX.hr 15 [f_ (bne_eq_false_iff_eq.2 h4),q_ (show ∀ k,k<1→(fun i=>[I ((aD C (tD t x1.toNat) t.ah).1)]) k=[[I ((aD C (tD t x1.toNat) t.ah).1)]].getD k []from by intro k hk;match k,hk with|0,_=>rfl|k+1,hk=>omega),q_ (re 1),q_ (re n11_),q_ h6,q_ (show ∀ k,k<n11_+1→(fun i=>[I (q5002 i)]) k=if k<n11_ then(fun i=>[I (g1111 i)]) k else(fun i=>[I ((aD C (tD t x1.toNat) t.ah).1)]) (k-n11_)from fun k hk=>by
   have e0:=h5 k hk
   by_cases c:k<n11_
   ·simp_all
   ·rw[if_neg c]at e0⊢;simp only[e0]),q_ h7,h_ [.row (fun i=>[I ((aD C (tD t x1.toNat) t.ah).1)]), .row (fun i=>[I (q5002 i)])]] [.ae 0, .ae 1, .ae 2, .ae 3, .ae 4, .ae 5, .ae 6, .ae 7, .ae 1008, .ae 9, .ae 10, .ae 15, .ae 12, .ae 13] 9 113 [[.fn (.func 50) [.ptr 6 0] []],[.fn (.func 51) [.ptr 6 0] []],[.fn (.func 52) [.ptr 6 0] []],[.fn (.func 53) [.ptr 6 0] []]] k
  ·have k:=L4 h4
   exact hX.h 38 [t_ (bne_iff_ne.2 h4),t_ (bne_iff_ne.2 h4)] [.ae 0, .ae 1, .ae 2, .ae 3, .ae 4, .ae 5, .ae 6, .ae 7, .ae 1008, .ae 1009, .ae 10, .ae 1011, .ae 12, .ae 13] k
 ·obtain⟨h1,h2,L3,K3⟩:=K0 h0
  refine hX.go [f_ (df h0),f_ rf,q_ (show Ir 2 from by decide),t_ rt,q_ (show(0:Int)≤2∧2<((4:Nat):Int)from by decide),q_ (re 4),q_ (show(0:Int)≤2∧2<((4:Nat):Int)from by decide),q_ h1,q_ h2,q_ (re n11_),q_ h2,i_,d_ 27,c_ [] (GI t.a7)] ?_
  by_cases h3:t.a4=6
  ·obtain⟨h4,k⟩:=L3 h3
   exact hX.hr 37 [t_ (beq_iff_eq.2 h3),c_ [] (show S 78 [.agg [I t.a1,I t.a2,I t.a3,I t.a4,I t.a5,I t.a6,I t.a7,B t.a8,B t.a9,B t.ak,I t.ah]] [] (.af [.sl 0 (tG t),I (fO t)]) [some (.row true 3 (tG t) 1 (fun i=>[I (tV t i)]))]from Hy _ _ _ _ _ _ _ _ _ _ _ h4),i_] [.ae 0, .ae 1, .ae 2, .ae 3, .ae 4, .ae 5, .ae 6, .ae 7, .ae 1008, .ae 9, .ae 10, .ae 11, .ae 12, .ae 1013, .ae 14, .nil 1, .nil 1] 9 113 [[.fn (.func 50) [.ptr 6 0] []],[.fn (.func 51) [.ptr 6 0] []],[.fn (.func 52) [.ptr 6 0] []],[.fn (.func 53) [.ptr 6 0] []]] k
  ·have k:=K3 h3
   exact hX.hr 53 [f_ (beq_eq_false_iff_ne.2 h3),f_ rf,q_ (show Ir 3 from by decide),t_ rt,q_ (show(0:Int)≤3∧3<((4:Nat):Int)from by decide),q_ (re 4),q_ (show(0:Int)≤3∧3<((4:Nat):Int)from by decide),i_] [.ae 0, .ae 1, .ae 2, .ae 3, .ae 4, .ae 5, .ae 6, .ae 7, .ae 1008, .ae 9, .ae 10, .ae 11, .ae 12, .nil 1] 9 113 [[.fn (.func 50) [.ptr 6 0] []],[.fn (.func 51) [.ptr 6 0] []],[.fn (.func 52) [.ptr 6 0] []],[.fn (.func 53) [.ptr 6 0] []]] k
theorem GP {X:Cx} {t:cj} {C:Cl} {θ1:Th} {x1 x2:Int} {n11_:Nat} {g1111:Nat→Int} {n12_:Nat} {g1121 g1122:Nat→Int} {n15_:Nat} {g1151:Nat→Int} {n16_:Nat} {g1161:Nat→Int} (hX:pV X Tryz.prog GL 8) (H:(x1<(((tG t):Nat):Int)→((0:Int)≤x1∧x1<(((tG t):Nat):Int))∧bU C∧fJ (tV t x1.toNat)∧(((aD C (tV t x1.toNat) t.ah).2)≠0→Ok X (GU t C θ1 ((aD C (tV t x1.toNat) t.ah).2) x2 n11_ g1111 n12_ g1121 g1122))∧(((aD C (tV t x1.toNat) t.ah).2)=0→ ∃ q5003:Nat→Int,(∀ k,k<(n15_+1)→q5003 k=if k<n15_ then(g1151 k)else((aD C (tV t x1.toNat) t.ah).1))∧(n15_+1)*8≤140737488355328∧Ir (x1+1)∧Ok X (A2 t C θ1 (x1+1) x2 n11_ g1111 n12_ g1121 g1122 (n15_+1) q5003 n16_ g1161)))∧(¬x1<(((tG t):Nat):Int)→Ok X (s4 t C θ1 1 x2 n11_ g1111 n12_ g1121 g1122 n15_ g1151))):
  Ok X (A2 t C θ1 x1 x2 n11_ g1111 n12_ g1121 g1122 n15_ g1151 n16_ g1161):=by
 obtain⟨L0,K0⟩:=H
 by_cases h0:x1<(((tG t):Nat):Int)
 ·obtain⟨h1,h2,h3,L4,K4⟩:=L0 h0
  refine hX.go [t_ (dt h0),q_ h1,q_ (show(tG t)=(tG t)from rfl),q_ h1,d_ 15,c_ [0,1] (show S 106 [.agg [B (C.off 0),B (C.off 1),B (C.off 2),B (C.off 3),B (C.off 4),B (C.off 5),B (C.off 6), .sl 0 C.nr, .sl 1 C.nd],I (tV t x1.toNat),I t.ah] (aB C) (.af [I ((aD C (tV t x1.toNat) t.ah).1),I ((aD C (tV t x1.toNat) t.ah).2)]) []from Md h2 h3)] ?_
  by_cases h4:((aD C (tV t x1.toNat) t.ah).2)=0
  ·obtain⟨q5003,h5,h6,h7,k⟩:=K4 h4
   exact hX.hr 15 [f_ (bne_eq_false_iff_eq.2 h4),q_ (show ∀ k,k<1→(fun i=>[I ((aD C (tV t x1.toNat) t.ah).1)]) k=[[I ((aD C (tV t x1.toNat) t.ah).1)]].getD k []from by intro k hk;match k,hk with|0,_=>rfl|k+1,hk=>omega),q_ (re 1),q_ (re n15_),q_ h6,q_ (show ∀ k,k<n15_+1→(fun i=>[I (q5003 i)]) k=if k<n15_ then(fun i=>[I (g1151 i)]) k else(fun i=>[I ((aD C (tV t x1.toNat) t.ah).1)]) (k-n15_)from fun k hk=>by
   have e0:=h5 k hk
   by_cases c:k<n15_
   ·simp_all
   ·rw[if_neg c]at e0⊢;simp only[e0]),q_ h7,h_ [.row (fun i=>[I ((aD C (tV t x1.toNat) t.ah).1)]), .row (fun i=>[I (q5003 i)])]] [.ae 0, .ae 1, .ae 2, .ae 3, .ae 4, .ae 5, .ae 6, .ae 7, .ae 1008, .ae 9, .ae 10, .ae 11, .ae 12, .ae 1013, .ae 14, .ae 18, .ae 16] 9 113 [[.fn (.func 50) [.ptr 6 0] []],[.fn (.func 51) [.ptr 6 0] []],[.fn (.func 52) [.ptr 6 0] []],[.fn (.func 53) [.ptr 6 0] []]] k
  ·have k:=L4 h4
   exact hX.h 39 [t_ (bne_iff_ne.2 h4),t_ (bne_iff_ne.2 h4)] [.ae 0, .ae 1, .ae 2, .ae 3, .ae 4, .ae 5, .ae 6, .ae 7, .ae 1008, .ae 1009, .ae 10, .ae 11, .ae 12] k
 ·have k:=K0 h0
  exact hX.hr 75 [f_ (df h0),f_ rf,q_ (show Ir 3 from by decide),t_ rt,q_ (show(0:Int)≤3∧3<((4:Nat):Int)from by decide),q_ (re 4),q_ (show(0:Int)≤3∧3<((4:Nat):Int)from by decide),i_] [.ae 0, .ae 1, .ae 2, .ae 3, .ae 4, .ae 5, .ae 6, .ae 7, .ae 1008, .ae 9, .ae 10, .ae 11, .ae 12, .ae 15] 9 113 [[.fn (.func 50) [.ptr 6 0] []],[.fn (.func 51) [.ptr 6 0] []],[.fn (.func 52) [.ptr 6 0] []],[.fn (.func 53) [.ptr 6 0] []]] k
theorem GO {X:Cx} {t:cj} {C:Cl} {θ1:Th} {x1 x2:Int} {n11_:Nat} {g1111:Nat→Int} {n12_:Nat} {g1121 g1122:Nat→Int} {n13_:Nat} {g1131:Nat→Int} (hX:pV X Tryz.prog GL 8) (H:(x1<((n11_:Nat):Int)→Ir (x1-1)∧((0:Int)≤(x1-1)∧(x1-1)<((n11_:Nat):Int))∧((0:Int)≤x1∧x1<((n11_:Nat):Int))∧(((al t.a4 (g1111 ((x1-1).toNat)) (g1111 x1.toNat) t.ak x2 (br t.a7) n13_ g1131).2.2)≠0→Ok X (GS t C θ1 ((al t.a4 (g1111 ((x1-1).toNat)) (g1111 x1.toNat) t.ak x2 (br t.a7) n13_ g1131).2.2) x2 n11_ g1111 n12_ g1121 g1122 n13_ g1131))∧(((al t.a4 (g1111 ((x1-1).toNat)) (g1111 x1.toNat) t.ak x2 (br t.a7) n13_ g1131).2.2)=0→ ∃ q5003:Nat→Int,(∀ k,k<(n12_+1)→q5003 k=if k<n12_ then(g1121 k)else((al t.a4 (g1111 ((x1-1).toNat)) (g1111 x1.toNat) t.ak x2 (br t.a7) n13_ g1131).1))∧ ∃ q5004:Nat→Int,(∀ k,k<(n12_+1)→q5004 k=if k<n12_ then(g1122 k)else((al t.a4 (g1111 ((x1-1).toNat)) (g1111 x1.toNat) t.ak x2 (br t.a7) n13_ g1131).2.1))∧(n12_+1)*16≤140737488355328∧Ir (x1+1)∧Ok X (s4 t C θ1 (x1+1) x2 n11_ g1111 (n12_+1) q5003 q5004 n13_ g1131)))∧(¬x1<((n11_:Nat):Int)→Ok X (GR t C θ1 x2 n11_ g1111 n12_ g1121 g1122 n13_ g1131))):
  Ok X (s4 t C θ1 x1 x2 n11_ g1111 n12_ g1121 g1122 n13_ g1131):=by
 obtain⟨L0,K0⟩:=H
 by_cases h0:x1<((n11_:Nat):Int)
 ·obtain⟨h1,h2,h3,L4,K4⟩:=L0 h0
  refine hX.go [t_ (dt h0),q_ h1,q_ h2,q_ (re n11_),q_ h2,q_ h3,q_ (re n11_),q_ h3,h_ [.draw 32 [30] 1],c_ [13] (show S 79 [I t.a4,I (g1111 ((x1-1).toNat)),I (g1111 x1.toNat), .agg [B t.ak,I x2,I (br t.a7), .sl 0 n13_]] [ri n13_ g1131] (RT (al t.a4 (g1111 ((x1-1).toNat)) (g1111 x1.toNat) t.ak x2 (br t.a7) n13_ g1131)) []from Hz _ _ _),q_ (show(I ((al t.a4 (g1111 ((x1-1).toNat)) (g1111 x1.toNat) t.ak x2 (br t.a7) n13_ g1131).2.2):SV)=I ((al t.a4 (g1111 ((x1-1).toNat)) (g1111 x1.toNat) t.ak x2 (br t.a7) n13_ g1131).2.2)from rfl),q_ (show(I ((al t.a4 (g1111 ((x1-1).toNat)) (g1111 x1.toNat) t.ak x2 (br t.a7) n13_ g1131).2.2):SV)=I ((al t.a4 (g1111 ((x1-1).toNat)) (g1111 x1.toNat) t.ak x2 (br t.a7) n13_ g1131).2.2)from rfl)] ?_
  by_cases h4:((al t.a4 (g1111 ((x1-1).toNat)) (g1111 x1.toNat) t.ak x2 (br t.a7) n13_ g1131).2.2)=0
  ·obtain⟨q5003,h5,q5004,h6,h7,h8,k⟩:=K4 h4
   exact hX.hr 15 [f_ (bne_eq_false_iff_eq.2 h4),q_ (show ∀ k,k<1→(fun i=>[I ((al t.a4 (g1111 ((x1-1).toNat)) (g1111 x1.toNat) t.ak x2 (br t.a7) n13_ g1131).1),I ((al t.a4 (g1111 ((x1-1).toNat)) (g1111 x1.toNat) t.ak x2 (br t.a7) n13_ g1131).2.1)]) k=[[I ((al t.a4 (g1111 ((x1-1).toNat)) (g1111 x1.toNat) t.ak x2 (br t.a7) n13_ g1131).1),I ((al t.a4 (g1111 ((x1-1).toNat)) (g1111 x1.toNat) t.ak x2 (br t.a7) n13_ g1131).2.1)]].getD k []from by intro k hk;match k,hk with|0,_=>rfl|k+1,hk=>omega),q_ (show(.ptr 6 0:SV)= .ptr 6 0 from rfl),q_ (re 1),q_ (re n12_),q_ h7,q_ (show ∀ k,k<n12_+1→(fun i=>[I (q5003 i),I (q5004 i)]) k=if k<n12_ then(fun i=>[I (g1121 i),I (g1122 i)]) k else(fun i=>[I ((al t.a4 (g1111 ((x1-1).toNat)) (g1111 x1.toNat) t.ak x2 (br t.a7) n13_ g1131).1),I ((al t.a4 (g1111 ((x1-1).toNat)) (g1111 x1.toNat) t.ak x2 (br t.a7) n13_ g1131).2.1)]) (k-n12_)from fun k hk=>by
   have e0:=h5 k hk
   have e1:=h6 k hk
   by_cases c:k<n12_
   ·simp_all
   ·rw[if_neg c]at e0 e1⊢;simp only[e0,e1]),q_ (show(.ptr 6 0:SV)= .ptr 6 0 from rfl),q_ h8,h_ [.draw 8 [0] 1, .row (fun i=>[I ((al t.a4 (g1111 ((x1-1).toNat)) (g1111 x1.toNat) t.ak x2 (br t.a7) n13_ g1131).1),I ((al t.a4 (g1111 ((x1-1).toNat)) (g1111 x1.toNat) t.ak x2 (br t.a7) n13_ g1131).2.1)]), .row (fun i=>[I (q5003 i),I (q5004 i)])]] [.ae 0, .ae 1, .ae 2, .ae 3, .ae 4, .ae 5, .ae 6, .ae 7, .ae 1008, .ae 9, .ae 10, .ae 11, .ae 16, .ae 13] 9 113 [[.fn (.func 50) [.ptr 6 0] []],[.fn (.func 51) [.ptr 6 0] []],[.fn (.func 52) [.ptr 6 0] []],[.fn (.func 53) [.ptr 6 0] []]] k
  ·have k:=L4 h4
   exact hX.h 22 [t_ (bne_iff_ne.2 h4),t_ (bne_iff_ne.2 h4)] [.ae 0, .ae 1, .ae 2, .ae 3, .ae 4, .ae 5, .ae 6, .ae 7, .ae 1008, .ae 1009, .ae 10, .ae 11, .ae 12, .ae 13] k
 ·have k:=K0 h0
  exact hX.h 47 [f_ (df h0),f_ rf,q_ (show Ir 4 from by decide),f_ rf] [.ae 0, .ae 1, .ae 2, .ae 3, .ae 4, .ae 5, .ae 6, .ae 7, .ae 1008, .ae 1009, .ae 10, .ae 11, .ae 12, .ae 13] k
noncomputable def JW (t:cj) (C:Cl) (θ1:Th) (x1:Int):SC:=
 ⟨[⟨49,[some (.ptr 5 0),some (.ptr 7 0),some (.ptr 4 0),some (.af []),some (.af []),some (.af []),some (.af []),some (.af []),some (.af [])],[.code (aa Tryz.f49 [])],⟨none,[],true⟩⟩],(aB C++[none,none,some (.box true [.val (.slice none 0 0), .val (.slice none 0 0), .val (.slice none 0 0),B false,I 0,I 0, .val (.slice none 0 0)]),some (.box true [I x1]),some (.box true [I t.a1,I t.a2,I t.a3,I t.a4,I t.a5,I t.a6,I t.a7,B t.a8,B t.a9,B t.ak,I t.ah,B (C.off 0),B (C.off 1),B (C.off 2),B (C.off 3),B (C.off 4),B (C.off 5),B (C.off 6), .sl 0 C.nr, .sl 1 C.nd, .sl 10 (tN t), .val (.slice none 0 0), .val (.slice none 0 0),B false,I 0,I 0, .val (.slice none 0 0)]),some (.box true [.ptr 6 0]),none,none,some (.row true 3 (tN t) 1 (fun i=>[I (tD t i)]))])⟩
noncomputable def Ii (t:cj) (C:Cl) (x1:Int):SC:=
 ⟨[⟨49,[none,none,none,none,none,none,none,none,none],[],⟨none,[],true⟩⟩],(aB C++[none,none,some (.box true [.sl 10 (tN t), .val (.slice none 0 0), .val (.slice none 0 0),B false,I 0,I 0, .val (.slice none 0 0)]),some (.box true [I x1]),some (.box true [I t.a1,I t.a2,I t.a3,I t.a4,I t.a5,I t.a6,I t.a7,B t.a8,B t.a9,B t.ak,I t.ah,B (C.off 0),B (C.off 1),B (C.off 2),B (C.off 3),B (C.off 4),B (C.off 5),B (C.off 6), .sl 0 C.nr, .sl 1 C.nd, .sl 10 (tN t), .val (.slice none 0 0), .val (.slice none 0 0),B false,I 0,I 0, .val (.slice none 0 0)]),some (.box true [.ptr 6 0]),none,none,some (.row true 3 (tN t) 1 (fun i=>[I (tD t i)]))])⟩
noncomputable def Ih (t:cj) (C:Cl) (x1:Int):SC:=
 ⟨[⟨49,[none,none,none,none,none,none,none,none,none],[],⟨none,[],true⟩⟩],(aB C++[none,none,some (.box true [.val (.slice none 0 0), .val (.slice none 0 0), .val (.slice none 0 0),B false,I 0,I 0, .val (.slice none 0 0)]),some (.box true [I x1]),some (.box true [I t.a1,I t.a2,I t.a3,I t.a4,I t.a5,I t.a6,I t.a7,B t.a8,B t.a9,B t.ak,I t.ah,B (C.off 0),B (C.off 1),B (C.off 2),B (C.off 3),B (C.off 4),B (C.off 5),B (C.off 6), .sl 0 C.nr, .sl 1 C.nd, .sl 10 (tN t), .val (.slice none 0 0), .val (.slice none 0 0),B false,I 0,I 0, .val (.slice none 0 0)]),some (.box true [.ptr 6 0]),none,none,some (.row true 3 (tN t) 1 (fun i=>[I (tD t i)]))])⟩
theorem Ig {X:Cx} {t:cj} {C:Cl} {θ1:Th} {x1:Int} (hX:pV X Tryz.prog GL 11) (H:(x1=0→Ok X (Ii t C x1))∧(x1≠0→Ok X (Ih t C x1))):
  Ok X (JW t C θ1 x1):=by
 obtain⟨L0,K0⟩:=H
 by_cases h0:x1=0
 ·have k:=L0 h0
  exact hX.h 13 [t_ (beq_iff_eq.2 h0)] (aA 11) k
 ·have k:=K0 h0
  exact hX.h 7 [f_ (beq_eq_false_iff_ne.2 h0)] (aA 11) k
noncomputable def JV (t:cj) (C:Cl) (θ1:Th) (x1:Int) (n12_:Nat) (g1121:Nat→Int) (g1122:Nat→Int) (n13_:Nat) (g1131:Nat→Int):SC:=
 ⟨[⟨49,[some (.ptr 5 0),some (.ptr 7 0),some (.ptr 4 0),some (.af []),some (.af []),some (.af []),some (.af []),some (.af []),some (.af [])],[.code (aa Tryz.f49 [])],⟨none,[],true⟩⟩],(aB C++[none,none,some (.box true [.val (.slice none 0 0), .val (.slice none 0 0), .val (.slice none 0 0),B false,I 0,I 0, .val (.slice none 0 0)]),some (.box true [I x1]),some (.box true [I t.a1,I t.a2,I t.a3,I t.a4,I t.a5,I t.a6,I t.a7,B t.a8,B t.a9,B t.ak,I t.ah,B (C.off 0),B (C.off 1),B (C.off 2),B (C.off 3),B (C.off 4),B (C.off 5),B (C.off 6), .sl 0 C.nr, .sl 1 C.nd, .sl 10 (tN t), .val (.slice none 0 0), .sl 12 n12_,B false,I 0,I 0, .sl 13 n13_]),some (.box true [.ptr 6 0]),none,none,some (.row true 3 (tN t) 1 (fun i=>[I (tD t i)])),none,some (.row true 121 n12_ 2 (fun i=>[I (g1121 i),I (g1122 i)])),ro n13_ g1131])⟩
noncomputable def Ie (t:cj) (C:Cl) (x1:Int) (n12_:Nat) (g1121:Nat→Int) (g1122:Nat→Int) (n13_:Nat) (g1131:Nat→Int):SC:=
 ⟨[⟨49,[none,none,none,none,none,none,none,none,none],[],⟨none,[],true⟩⟩],(aB C++[none,none,some (.box true [.sl 10 (tN t), .val (.slice none 0 0), .sl 12 n12_,B false,I 0,I 0, .sl 13 n13_]),some (.box true [I x1]),some (.box true [I t.a1,I t.a2,I t.a3,I t.a4,I t.a5,I t.a6,I t.a7,B t.a8,B t.a9,B t.ak,I t.ah,B (C.off 0),B (C.off 1),B (C.off 2),B (C.off 3),B (C.off 4),B (C.off 5),B (C.off 6), .sl 0 C.nr, .sl 1 C.nd, .sl 10 (tN t), .val (.slice none 0 0), .sl 12 n12_,B false,I 0,I 0, .sl 13 n13_]),some (.box true [.ptr 6 0]),none,none,some (.row true 3 (tN t) 1 (fun i=>[I (tD t i)])),none,some (.row true 121 n12_ 2 (fun i=>[I (g1121 i),I (g1122 i)])),ro n13_ g1131])⟩
noncomputable def Ic (t:cj) (C:Cl) (x1:Int) (n12_:Nat) (g1121:Nat→Int) (g1122:Nat→Int) (n13_:Nat) (g1131:Nat→Int):SC:=
 ⟨[⟨49,[none,none,none,none,none,none,none,none,none],[],⟨none,[],true⟩⟩],(aB C++[none,none,some (.box true [.val (.slice none 0 0), .val (.slice none 0 0), .val (.slice none 0 0),B false,I 0,I 0, .val (.slice none 0 0)]),some (.box true [I x1]),some (.box true [I t.a1,I t.a2,I t.a3,I t.a4,I t.a5,I t.a6,I t.a7,B t.a8,B t.a9,B t.ak,I t.ah,B (C.off 0),B (C.off 1),B (C.off 2),B (C.off 3),B (C.off 4),B (C.off 5),B (C.off 6), .sl 0 C.nr, .sl 1 C.nd, .sl 10 (tN t), .val (.slice none 0 0), .sl 12 n12_,B false,I 0,I 0, .sl 13 n13_]),some (.box true [.ptr 6 0]),none,none,some (.row true 3 (tN t) 1 (fun i=>[I (tD t i)])),none,some (.row true 121 n12_ 2 (fun i=>[I (g1121 i),I (g1122 i)])),ro n13_ g1131])⟩
theorem Ib {X:Cx} {t:cj} {C:Cl} {θ1:Th} {x1:Int} {n12_:Nat} {g1121 g1122:Nat→Int} {n13_:Nat} {g1131:Nat→Int} (hX:pV X Tryz.prog GL 14) (H:(x1=0→Ok X (Ie t C x1 n12_ g1121 g1122 n13_ g1131))∧(x1≠0→Ok X (Ic t C x1 n12_ g1121 g1122 n13_ g1131))):
  Ok X (JV t C θ1 x1 n12_ g1121 g1122 n13_ g1131):=by
 obtain⟨L0,K0⟩:=H
 by_cases h0:x1=0
 ·have k:=L0 h0
  exact hX.h 13 [t_ (beq_iff_eq.2 h0)] (aA 14) k
 ·have k:=K0 h0
  exact hX.h 7 [f_ (beq_eq_false_iff_ne.2 h0)] (aA 14) k
noncomputable def JU (t:cj) (C:Cl) (θ1:Th) (x1:Int) (x2:Int) (n11_:Nat) (g1111:Nat→Int) (n12_:Nat) (g1121:Nat→Int) (g1122:Nat→Int):SC:=
 ⟨[⟨49,[some (.ptr 5 0),some (.ptr 7 0),some (.ptr 4 0),some (.af []),some (.af []),some (.af []),some (.af []),some (.af []),some (.af [])],[.code (aa Tryz.f49 [])],⟨none,[],true⟩⟩],(aB C++[none,none,some (.box true [.val (.slice none 0 0), .val (.slice none 0 0), .val (.slice none 0 0),B false,I 0,I 0, .val (.slice none 0 0)]),some (.box true [I x1]),some (.box true [I t.a1,I t.a2,I t.a3,I t.a4,I t.a5,I t.a6,I t.a7,B t.a8,B t.a9,B t.ak,I t.ah,B (C.off 0),B (C.off 1),B (C.off 2),B (C.off 3),B (C.off 4),B (C.off 5),B (C.off 6), .sl 0 C.nr, .sl 1 C.nd, .sl 10 (tN t), .sl 11 n11_, .sl 12 n12_,B t.ak,I x2,I (br t.a7), .val (.slice none 0 0)]),some (.box true [.ptr 6 0]),none,none,some (.row true 3 (tN t) 1 (fun i=>[I (tD t i)])),ro n11_ g1111,some (.row true 121 n12_ 2 (fun i=>[I (g1121 i),I (g1122 i)]))])⟩
noncomputable def Ia (t:cj) (C:Cl) (x1:Int) (x2:Int) (n11_:Nat) (g1111:Nat→Int) (n12_:Nat) (g1121:Nat→Int) (g1122:Nat→Int):SC:=
 ⟨[⟨49,[none,none,none,none,none,none,none,none,none],[],⟨none,[],true⟩⟩],(aB C++[none,none,some (.box true [.sl 10 (tN t), .sl 11 n11_, .sl 12 n12_,B t.ak,I x2,I (br t.a7), .val (.slice none 0 0)]),some (.box true [I x1]),some (.box true [I t.a1,I t.a2,I t.a3,I t.a4,I t.a5,I t.a6,I t.a7,B t.a8,B t.a9,B t.ak,I t.ah,B (C.off 0),B (C.off 1),B (C.off 2),B (C.off 3),B (C.off 4),B (C.off 5),B (C.off 6), .sl 0 C.nr, .sl 1 C.nd, .sl 10 (tN t), .sl 11 n11_, .sl 12 n12_,B t.ak,I x2,I (br t.a7), .val (.slice none 0 0)]),some (.box true [.ptr 6 0]),none,none,some (.row true 3 (tN t) 1 (fun i=>[I (tD t i)])),ro n11_ g1111,some (.row true 121 n12_ 2 (fun i=>[I (g1121 i),I (g1122 i)]))])⟩
noncomputable def H_ (t:cj) (C:Cl) (x1:Int) (x2:Int) (n11_:Nat) (g1111:Nat→Int) (n12_:Nat) (g1121:Nat→Int) (g1122:Nat→Int):SC:=
 ⟨[⟨49,[none,none,none,none,none,none,none,none,none],[],⟨none,[],true⟩⟩],(aB C++[none,none,some (.box true [.val (.slice none 0 0), .val (.slice none 0 0), .val (.slice none 0 0),B false,I 0,I 0, .val (.slice none 0 0)]),some (.box true [I x1]),some (.box true [I t.a1,I t.a2,I t.a3,I t.a4,I t.a5,I t.a6,I t.a7,B t.a8,B t.a9,B t.ak,I t.ah,B (C.off 0),B (C.off 1),B (C.off 2),B (C.off 3),B (C.off 4),B (C.off 5),B (C.off 6), .sl 0 C.nr, .sl 1 C.nd, .sl 10 (tN t), .sl 11 n11_, .sl 12 n12_,B t.ak,I x2,I (br t.a7), .val (.slice none 0 0)]),some (.box true [.ptr 6 0]),none,none,some (.row true 3 (tN t) 1 (fun i=>[I (tD t i)])),ro n11_ g1111,some (.row true 121 n12_ 2 (fun i=>[I (g1121 i),I (g1122 i)]))])⟩
theorem H9 {X:Cx} {t:cj} {C:Cl} {θ1:Th} {x1 x2:Int} {n11_:Nat} {g1111:Nat→Int} {n12_:Nat} {g1121 g1122:Nat→Int} (hX:pV X Tryz.prog GL 13) (H:(x1=0→Ok X (Ia t C x1 x2 n11_ g1111 n12_ g1121 g1122))∧(x1≠0→Ok X (H_ t C x1 x2 n11_ g1111 n12_ g1121 g1122))):
  Ok X (JU t C θ1 x1 x2 n11_ g1111 n12_ g1121 g1122):=by
 obtain⟨L0,K0⟩:=H
 by_cases h0:x1=0
 ·have k:=L0 h0
  exact hX.h 13 [t_ (beq_iff_eq.2 h0)] (aA 13) k
 ·have k:=K0 h0
  exact hX.h 7 [f_ (beq_eq_false_iff_ne.2 h0)] (aA 13) k
noncomputable def JT (t:cj) (C:Cl) (θ1:Th) (x1:Int) (x2:Int) (n11_:Nat) (g1111:Nat→Int) (n12_:Nat) (g1121:Nat→Int) (g1122:Nat→Int) (n13_:Nat) (g1131:Nat→Int):SC:=
 ⟨[⟨49,[some (.ptr 5 0),some (.ptr 7 0),some (.ptr 4 0),some (.af []),some (.af []),some (.af []),some (.af []),some (.af []),some (.af [])],[.code (aa Tryz.f49 [])],⟨none,[],true⟩⟩],(aB C++[none,none,some (.box true [.val (.slice none 0 0), .val (.slice none 0 0), .val (.slice none 0 0),B false,I 0,I 0, .val (.slice none 0 0)]),some (.box true [I x1]),some (.box true [I t.a1,I t.a2,I t.a3,I t.a4,I t.a5,I t.a6,I t.a7,B t.a8,B t.a9,B t.ak,I t.ah,B (C.off 0),B (C.off 1),B (C.off 2),B (C.off 3),B (C.off 4),B (C.off 5),B (C.off 6), .sl 0 C.nr, .sl 1 C.nd, .sl 10 (tN t), .sl 11 n11_, .sl 12 n12_,B t.ak,I x2,I (br t.a7), .sl 13 n13_]),some (.box true [.ptr 6 0]),none,none,some (.row true 3 (tN t) 1 (fun i=>[I (tD t i)])),ro n11_ g1111,some (.row true 121 n12_ 2 (fun i=>[I (g1121 i),I (g1122 i)])),ro n13_ g1131])⟩
noncomputable def H8 (t:cj) (C:Cl) (x1:Int) (x2:Int) (n11_:Nat) (g1111:Nat→Int) (n12_:Nat) (g1121:Nat→Int) (g1122:Nat→Int) (n13_:Nat) (g1131:Nat→Int):SC:=
 ⟨[⟨49,[none,none,none,none,none,none,none,none,none],[],⟨none,[],true⟩⟩],(aB C++[none,none,some (.box true [.sl 10 (tN t), .sl 11 n11_, .sl 12 n12_,B t.ak,I x2,I (br t.a7), .sl 13 n13_]),some (.box true [I x1]),some (.box true [I t.a1,I t.a2,I t.a3,I t.a4,I t.a5,I t.a6,I t.a7,B t.a8,B t.a9,B t.ak,I t.ah,B (C.off 0),B (C.off 1),B (C.off 2),B (C.off 3),B (C.off 4),B (C.off 5),B (C.off 6), .sl 0 C.nr, .sl 1 C.nd, .sl 10 (tN t), .sl 11 n11_, .sl 12 n12_,B t.ak,I x2,I (br t.a7), .sl 13 n13_]),some (.box true [.ptr 6 0]),none,none,some (.row true 3 (tN t) 1 (fun i=>[I (tD t i)])),ro n11_ g1111,some (.row true 121 n12_ 2 (fun i=>[I (g1121 i),I (g1122 i)])),ro n13_ g1131])⟩
noncomputable def H7 (t:cj) (C:Cl) (x1:Int) (x2:Int) (n11_:Nat) (g1111:Nat→Int) (n12_:Nat) (g1121:Nat→Int) (g1122:Nat→Int) (n13_:Nat) (g1131:Nat→Int):SC:=
 ⟨[⟨49,[none,none,none,none,none,none,none,none,none],[],⟨none,[],true⟩⟩],(aB C++[none,none,some (.box true [.val (.slice none 0 0), .val (.slice none 0 0), .val (.slice none 0 0),B false,I 0,I 0, .val (.slice none 0 0)]),some (.box true [I x1]),some (.box true [I t.a1,I t.a2,I t.a3,I t.a4,I t.a5,I t.a6,I t.a7,B t.a8,B t.a9,B t.ak,I t.ah,B (C.off 0),B (C.off 1),B (C.off 2),B (C.off 3),B (C.off 4),B (C.off 5),B (C.off 6), .sl 0 C.nr, .sl 1 C.nd, .sl 10 (tN t), .sl 11 n11_, .sl 12 n12_,B t.ak,I x2,I (br t.a7), .sl 13 n13_]),some (.box true [.ptr 6 0]),none,none,some (.row true 3 (tN t) 1 (fun i=>[I (tD t i)])),ro n11_ g1111,some (.row true 121 n12_ 2 (fun i=>[I (g1121 i),I (g1122 i)])),ro n13_ g1131])⟩
theorem H6 {X:Cx} {t:cj} {C:Cl} {θ1:Th} {x1 x2:Int} {n11_:Nat} {g1111:Nat→Int} {n12_:Nat} {g1121 g1122:Nat→Int} {n13_:Nat} {g1131:Nat→Int} (hX:pV X Tryz.prog GL 14) (H:(x1=0→Ok X (H8 t C x1 x2 n11_ g1111 n12_ g1121 g1122 n13_ g1131))∧(x1≠0→Ok X (H7 t C x1 x2 n11_ g1111 n12_ g1121 g1122 n13_ g1131))):
  Ok X (JT t C θ1 x1 x2 n11_ g1111 n12_ g1121 g1122 n13_ g1131):=by
 obtain⟨L0,K0⟩:=H
 by_cases h0:x1=0
 ·have k:=L0 h0
  exact hX.h 13 [t_ (beq_iff_eq.2 h0)] (aA 14) k
 ·have k:=K0 h0
  exact hX.h 7 [f_ (beq_eq_false_iff_ne.2 h0)] (aA 14) k
noncomputable def JS (t:cj) (C:Cl) (θ1:Th) (x1:Int) (n11_:Nat) (g1111:Nat→Int) (n12_:Nat) (g1121:Nat→Int) (g1122:Nat→Int) (n13_:Nat) (g1131:Nat→Int):SC:=
 ⟨[⟨49,[some (.ptr 5 0),some (.ptr 7 0),some (.ptr 4 0),some (.af []),some (.af []),some (.af []),some (.af []),some (.af []),some (.af [])],[.code (aa Tryz.f49 [])],⟨none,[],true⟩⟩],(aB C++[none,none,some (.box true [.val (.slice none 0 0), .val (.slice none 0 0), .val (.slice none 0 0),B false,I 0,I 0, .val (.slice none 0 0)]),some (.box true [I 0]),some (.box true [I t.a1,I t.a2,I t.a3,I t.a4,I t.a5,I t.a6,I t.a7,B t.a8,B t.a9,B t.ak,I t.ah,B (C.off 0),B (C.off 1),B (C.off 2),B (C.off 3),B (C.off 4),B (C.off 5),B (C.off 6), .sl 0 C.nr, .sl 1 C.nd, .sl 10 (tN t), .sl 11 n11_, .sl 12 n12_,B t.ak,I x1,I (br t.a7), .sl 13 n13_]),some (.box true [.ptr 6 0]),none,none,some (.row true 3 (tN t) 1 (fun i=>[I (tD t i)])),ro n11_ g1111,some (.row true 121 n12_ 2 (fun i=>[I (g1121 i),I (g1122 i)])),ro n13_ g1131])⟩
noncomputable def H5 (t:cj) (C:Cl) (x1:Int) (n11_:Nat) (g1111:Nat→Int) (n12_:Nat) (g1121:Nat→Int) (g1122:Nat→Int) (n13_:Nat) (g1131:Nat→Int):SC:=
 ⟨[⟨49,[none,none,none,none,none,none,none,none,none],[],⟨none,[],true⟩⟩],(aB C++[none,none,some (.box true [.sl 10 (tN t), .sl 11 n11_, .sl 12 n12_,B t.ak,I x1,I (br t.a7), .sl 13 n13_]),some (.box true [I 0]),some (.box true [I t.a1,I t.a2,I t.a3,I t.a4,I t.a5,I t.a6,I t.a7,B t.a8,B t.a9,B t.ak,I t.ah,B (C.off 0),B (C.off 1),B (C.off 2),B (C.off 3),B (C.off 4),B (C.off 5),B (C.off 6), .sl 0 C.nr, .sl 1 C.nd, .sl 10 (tN t), .sl 11 n11_, .sl 12 n12_,B t.ak,I x1,I (br t.a7), .sl 13 n13_]),some (.box true [.ptr 6 0]),none,none,some (.row true 3 (tN t) 1 (fun i=>[I (tD t i)])),ro n11_ g1111,some (.row true 121 n12_ 2 (fun i=>[I (g1121 i),I (g1122 i)])),ro n13_ g1131])⟩
theorem H4 {X:Cx} {t:cj} {C:Cl} {θ1:Th} {x1:Int} {n11_:Nat} {g1111:Nat→Int} {n12_:Nat} {g1121 g1122:Nat→Int} {n13_:Nat} {g1131:Nat→Int} (hX:pV X Tryz.prog GL 14) (H:Ok X (H5 t C x1 n11_ g1111 n12_ g1121 g1122 n13_ g1131)):
  Ok X (JS t C θ1 x1 n11_ g1111 n12_ g1121 g1122 n13_ g1131):=by
 have k:=H
 exact hX.h 13 [t_ rt] (aA 14) k
theorem Mz {X:Cx} {t:cj} {C:Cl} {θ1:Th} {x1:Int} (hX:Fi X 31 (aB C) (.af [.agg [.val (.slice none 0 0), .val (.slice none 0 0), .val (.slice none 0 0),B false,I 0,I 0, .val (.slice none 0 0)],I x1]) []) (ho:az X.n0 X.θ0 θ1) (hx:x1≠0):Ok (X.fy θ1 8 X.cs) (GW t C θ1 x1):=by
 have hn0:X.n0=2:=hX.n0
 refine Ok.oc (.inr ⟨_,rfl⟩) ho (by rw[hn0];decide) (by kernel_rfl) (by rw[hX.P];exact Tryz.func49) (by kernel_rfl) rfl (fun θ2 T2 hT2 ho2 hn2=> ?_)
 exact Ig (X:=X.fy θ2 _ _) (θ1:=θ1) ⟨hX.P,hX.gl,rfl⟩ ⟨fun e=>absurd e hx,fun _=>Ok.jl hX [] (.inl rfl) Tryz.func49 rfl hT2 ho2 hn2 (by kernel_rfl)⟩
theorem My {X:Cx} {t:cj} {C:Cl} {θ1:Th} {x1:Int} {n12_:Nat} {g1121:Nat→Int} {g1122:Nat→Int} {n13_:Nat} {g1131:Nat→Int} (hX:Fi X 31 (aB C) (.af [.agg [.val (.slice none 0 0), .val (.slice none 0 0), .val (.slice none 0 0),B false,I 0,I 0, .val (.slice none 0 0)],I x1]) []) (ho:az X.n0 X.θ0 θ1) (hx:x1≠0):Ok (X.fy θ1 8 X.cs) (GV t C θ1 x1 n12_ g1121 g1122 n13_ g1131):=by
 have hn0:X.n0=2:=hX.n0
 refine Ok.oc (.inr ⟨_,rfl⟩) ho (by rw[hn0];decide) (by kernel_rfl) (by rw[hX.P];exact Tryz.func49) (by kernel_rfl) rfl (fun θ2 T2 hT2 ho2 hn2=> ?_)
 exact Ib (X:=X.fy θ2 _ _) (θ1:=θ1) ⟨hX.P,hX.gl,rfl⟩ ⟨fun e=>absurd e hx,fun _=>Ok.jl hX [] (.inl rfl) Tryz.func49 rfl hT2 ho2 hn2 (by kernel_rfl)⟩
theorem Mx {X:Cx} {t:cj} {C:Cl} {θ1:Th} {x1:Int} {x2:Int} {n11_:Nat} {g1111:Nat→Int} {n12_:Nat} {g1121:Nat→Int} {g1122:Nat→Int} (hX:Fi X 31 (aB C) (.af [.agg [.val (.slice none 0 0), .val (.slice none 0 0), .val (.slice none 0 0),B false,I 0,I 0, .val (.slice none 0 0)],I x1]) []) (ho:az X.n0 X.θ0 θ1) (hx:x1≠0):Ok (X.fy θ1 8 X.cs) (GU t C θ1 x1 x2 n11_ g1111 n12_ g1121 g1122):=by
 have hn0:X.n0=2:=hX.n0
 refine Ok.oc (.inr ⟨_,rfl⟩) ho (by rw[hn0];decide) (by kernel_rfl) (by rw[hX.P];exact Tryz.func49) (by kernel_rfl) rfl (fun θ2 T2 hT2 ho2 hn2=> ?_)
 exact H9 (X:=X.fy θ2 _ _) (θ1:=θ1) ⟨hX.P,hX.gl,rfl⟩ ⟨fun e=>absurd e hx,fun _=>Ok.jl hX [] (.inl rfl) Tryz.func49 rfl hT2 ho2 hn2 (by kernel_rfl)⟩
theorem Mw {X:Cx} {t:cj} {C:Cl} {θ1:Th} {x1:Int} {x2:Int} {n11_:Nat} {g1111:Nat→Int} {n12_:Nat} {g1121:Nat→Int} {g1122:Nat→Int} {n13_:Nat} {g1131:Nat→Int} (hX:Fi X 31 (aB C) (.af [.agg [.val (.slice none 0 0), .val (.slice none 0 0), .val (.slice none 0 0),B false,I 0,I 0, .val (.slice none 0 0)],I x1]) []) (ho:az X.n0 X.θ0 θ1) (hx:x1≠0):Ok (X.fy θ1 8 X.cs) (GS t C θ1 x1 x2 n11_ g1111 n12_ g1121 g1122 n13_ g1131):=by
 have hn0:X.n0=2:=hX.n0
 refine Ok.oc (.inr ⟨_,rfl⟩) ho (by rw[hn0];decide) (by kernel_rfl) (by rw[hX.P];exact Tryz.func49) (by kernel_rfl) rfl (fun θ2 T2 hT2 ho2 hn2=> ?_)
 exact H6 (X:=X.fy θ2 _ _) (θ1:=θ1) ⟨hX.P,hX.gl,rfl⟩ ⟨fun e=>absurd e hx,fun _=>Ok.jl hX [] (.inl rfl) Tryz.func49 rfl hT2 ho2 hn2 (by kernel_rfl)⟩
theorem Mu {X:Cx} {t:cj} {C:Cl} {θ1:Th} {x1:Int} {n11_:Nat} {g1111:Nat→Int} {n12_:Nat} {g1121:Nat→Int} {g1122:Nat→Int} {n13_:Nat} {g1131:Nat→Int} (hX:Fi X 31 (aB C) (.af [.agg [.sl 2 (tN t), .sl 3 n11_, .sl 4 n12_,B t.ak,I x1,I (br t.a7), .sl 5 n13_],I 0]) [ro (tN t) (fun i=>tD t i),ro n11_ g1111,some (.row true 121 n12_ 2 (fun i=>[I (g1121 i),I (g1122 i)])),ro n13_ g1131]) (ho:az X.n0 X.θ0 θ1):Ok (X.fy θ1 8 X.cs) (GR t C θ1 x1 n11_ g1111 n12_ g1121 g1122 n13_ g1131):=by
 have hn0:X.n0=2:=hX.n0
 refine Ok.oc (.inr ⟨_,rfl⟩) ho (by rw[hn0];decide) (by kernel_rfl) (by rw[hX.P];exact Tryz.func49) (by kernel_rfl) rfl (fun θ2 T2 hT2 ho2 hn2=> ?_)
 exact H4 (X:=X.fy θ2 _ _) (θ1:=θ1) ⟨hX.P,hX.gl,rfl⟩ (Ok.jl hX [10,11,12,13] (.inl rfl) Tryz.func49 rfl hT2 ho2 hn2 (by kernel_rfl))
theorem CY {X:Cx} {t:cj} {C:Cl} {θ1:Th} (hX:Fi X 31 (aB C) (Bi t C (bF t C)) (zC t C)) (ho:az X.n0 X.θ0 θ1) (h0:fO t=0) (hs:xk t)
  (hc:bF t C=dW (fun i=>(tP t C i).2.2) (tN t-1)) {g13:Nat→Int} (hg: ∀ k a b eom e f,k=t.a4→al k a b eom e f (tK t) g13=al k a b eom e f (tK t) (fun i=>(tQ t C i).1)) (hg':bF t C=0→Ok (X.fy θ1 8 X.cs) (s4 t C θ1 ((tN t:Nat):Int) (tE t C) (tN t) (fun i=>(tR t C i).1) (tN t-1) (fun i=>(tP t C i).1) (fun i=>(tP t C i).2.1) (tK t) g13)):
  ∀ (f i:Nat),i+f=tN t-1→(∀ j,j<i→(tP t C j).2.2=0)→ ∀ (q1 q2:Nat→Int),(i=0∨(q1=(fun i=>(tP t C i).1)∧q2=(fun i=>(tP t C i).2.1)))→
    Ok (X.fy θ1 8 X.cs) (s4 t C θ1 (((i+1:Nat):Nat):Int) (tE t C) (tN t) (fun i=>(tR t C i).1) i q1 q2 (tK t) g13)
 |0,i,hi,hj,q1,q2,hq=>by
  grind [fW,bF,tN,kv]
 |f+1,i,hi,hj,q1,q2,hq=>by
  have hN:=kv h0 hs
  have hB:pV (X.fy θ1 8 X.cs) Tryz.prog GL 8:=⟨hX.P,hX.gl,rfl⟩
  have t1:((((i+1:Nat):Int)).toNat)=i+1:=Int.toNat_natCast _
  have t2:((((i+1:Nat):Int)-1).toNat)=i:=by omega
  have eP:al t.a4 ((tR t C ((((i+1:Nat):Int)-1).toNat)).1) ((tR t C ((((i+1:Nat):Int)).toNat)).1) t.ak (tE t C) (br t.a7) (tK t) g13=tP t C i:=by rw[t1,t2,hg _ _ _ _ _ _ rfl];rfl
  refine GO hB ⟨fun _=> ?_,fun c=>absurd (show(((i+1:Nat):Nat):Int)<((tN t:Nat):Int)by omega) c⟩
  refine⟨aT (by omega),by omega,by omega,fun c=> ?_,fun c=> ?_⟩
  ·rw[eP]at c⊢
   have e:bF t C=(tP t C i).2.2:=by rw[hc];exact gY (f:=fun i=>(tP t C i).2.2) hj c (by omega)
   grind [fk,Mw]
  ·rw[eP]at c⊢
   refine⟨fun k=>(tP t C k).1,fun k hk=> ?_,fun k=>(tP t C k).2.1,fun k hk=> ?_,by omega,aT (by omega), ?_⟩
   ·grind
   ·grind
   ·exact CY hX ho h0 hs hc hg hg' f (i+1) (by omega) (fun j h=>by
     rcases Nat.lt_or_ge j i with d|d
     ·exact hj j d
     ·rw[show j=i by omega];exact c) _ _ (.inr ⟨rfl,rfl⟩)
theorem CX {X:Cx} {t:cj} {C:Cl} {θ1:Th} (hX:Fi X 31 (aB C) (Bi t C (bF t C)) (zC t C)) (ho:az X.n0 X.θ0 θ1) (h0:fO t=0) (hs:xk t) {g13:Nat→Int} (hg:tK t=0∨g13=(fun i=>(tQ t C i).1)) (e:bF t C=0):
  Ok (X.fy θ1 8 X.cs) (s4 t C θ1 ((tN t:Nat):Int) (tE t C) (tN t) (fun i=>(tR t C i).1) (tN t-1) (fun i=>(tP t C i).1) (fun i=>(tP t C i).2.1) (tK t) g13):=by
 have hB:pV (X.fy θ1 8 X.cs) Tryz.prog GL 8:=⟨hX.P,hX.gl,rfl⟩
 refine GO hB ⟨fun c=>absurd c (by omega),fun _=>Mu ?_ ho⟩
 have h1:=pY hX e
 refine av.same h1 ⟨⟨rfl,rfl,rfl,rfl,fun i _=>rfl⟩,⟨rfl,rfl,rfl,rfl,fun i _=>rfl⟩,⟨rfl,rfl,rfl,rfl,fun i _=>rfl⟩,⟨rfl,rfl,rfl,rfl,fun i hi=> ?_⟩,trivial⟩
 grind
theorem GK {X:Cx} {t:cj} {C:Cl} {θ1:Th} (hX:Fi X 31 (aB C) (Bi t C (bF t C)) (zC t C)) (ho:az X.n0 X.θ0 θ1) (h0:fO t=0) (hs:xk t) (hC:bU C) (h6:t.a4=6)
  (hr:dW (fun i=>(tR t C i).2) (tN t)=0) {n12 n16:Nat} {g1 g2 g16:Nat→Int} (h12:n12=0):
  ∀ (f i:Nat),i+f=tG t→(∀ j,j<i→(tQ t C j).2=0)→ ∀ (q:Nat→Int),(i=0∨q=(fun i=>(tQ t C i).1))→
    Ok (X.fy θ1 8 X.cs) (A2 t C θ1 (i:Int) (tE t C) (tN t) (fun i=>(tR t C i).1) n12 g1 g2 i q n16 g16)
 |0,i,hi,hj,q,hq=>by
  have hN:=(AR h0 hs).1
  have hB:pV (X.fy θ1 8 X.cs) Tryz.prog GL 8:=⟨hX.P,hX.gl,rfl⟩
  have hk:tK t=tG t:=if_pos h6
  have e0:dW (fun i=>(tQ t C i).2) (tG t)=0:=fW (fun j h=>hj j (by omega))
  have hc:bF t C=dW (fun i=>(tP t C i).2.2) (tN t-1):=by unfold bF;rw[if_neg (by rw[h0];decide),if_neg (by rw[hr];decide),if_neg (by rintro ⟨-,c⟩;exact c e0)]
  rcases hq with hq|rfl
  ·omega
  subst h12
  refine GP hB ⟨fun c=>absurd (show(i:Int)<((tG t:Nat):Int)from c) (by omega),fun _=> ?_⟩
  rw[show i=tK t by omega]
  exact CY hX ho h0 hs hc (fun _ _ _ _ _ _ _=>rfl) (fun e=>CX hX ho h0 hs (.inr rfl) e) (tN t-1) 0 (by omega) (fun j h=>absurd h (Nat.not_lt_zero _)) _ _ (.inl rfl)
 |f+1,i,hi,hj,q,hq=>by
  have hN:=(AR h0 hs).2
  have hB:pV (X.fy θ1 8 X.cs) Tryz.prog GL 8:=⟨hX.P,hX.gl,rfl⟩
  have ti:((i:Int)).toNat=i:=Int.toNat_natCast _
  refine GP hB ⟨fun _=> ?_,fun c=>absurd (show(i:Int)<((tG t:Nat):Int)by omega) c⟩
  rw[ti]
  refine⟨show(0:Int)≤i∧(i:Int)<((tG t:Nat):Int)by omega,hC,fJ.of (ze h0 hs (i:=i) (by omega)),fun c=> ?_,fun c=> ?_⟩
  ·have e:bF t C=(tQ t C i).2:=by
    have e0:dW (fun i=>(tQ t C i).2) (tG t)=(tQ t C i).2:=gY (f:=fun i=>(tQ t C i).2) hj c (by omega)
    unfold bF;rw[if_neg (by rw[h0];decide),if_neg (by rw[hr];decide),if_pos ⟨h6,by rw[e0];exact c⟩,e0]
   refine Mx ?_ ho c
   show Fi X _ _ (.af [_,I (tQ t C i).2]) []
   rw[←e]
   exact fk rfl hX (by rw[e];exact c)
  ·refine⟨fun k=>(tQ t C k).1,fun k hk=> ?_,by omega,aT (by omega), ?_⟩
   ·by_cases d:k<i
    ·grind
    ·rw[if_neg d,show k=i by omega];rfl
   ·exact GK hX ho h0 hs hC h6 hr h12 f (i+1) (by omega) (fun j h=>by
     rcases Nat.lt_or_ge j i with d|d
     ·exact hj j d
     ·rw[show j=i by omega];exact c) _ (.inr rfl)
theorem GM {X:Cx} {t:cj} {C:Cl} {θ1:Th} (hX:Fi X 31 (aB C) (Bi t C (bF t C)) (zC t C)) (ho:az X.n0 X.θ0 θ1) (h0:fO t=0) (hs:xk t) (hC:bU C) {n12 n13:Nat} {g1 g2 g13:Nat→Int} (h12:n12=0):
  ∀ (f i:Nat),i+f=tN t→(∀ j,j<i→(tR t C j).2=0)→ ∀ (q:Nat→Int),(i=0∨q=(fun i=>(tR t C i).1))→
    Ok (X.fy θ1 8 X.cs) (A3 t C θ1 (i:Int) i q n12 g1 g2 n13 g13)
 |0,i,hi,hj,q,hq=>by
  have hN:=kv h0 hs
  have hB:pV (X.fy θ1 8 X.cs) Tryz.prog GL 8:=⟨hX.P,hX.gl,rfl⟩
  have hr:dW (fun i=>(tR t C i).2) (tN t)=0:=fW (fun j h=>hj j (by omega))
  rcases hq with hq|rfl
  ·omega
  subst h12
  have eE:(tR t C ((((i:Nat):Int)-1).toNat)).1=tE t C:=by unfold tE;rw[show((((i:Nat):Int)-1).toNat)=tN t-1 by omega]
  refine GQ hB ⟨fun c=>absurd (show(i:Int)<((tN t:Nat):Int)from c) (by omega),fun _=>⟨aT (by omega),by omega,fun h6=>⟨hs, ?_⟩,fun h6=> ?_⟩⟩
  ·rw[eE]
   rw[show i=tN t by omega]
   exact GK hX ho h0 hs hC h6 hr rfl (tG t) 0 (by omega) (fun j h=>absurd h (Nat.not_lt_zero _)) _ (.inl rfl)
  ·rw[eE]
   rw[show i=tN t by omega]
   have hk:tK t=0:=if_neg h6
   have hc:bF t C=dW (fun i=>(tP t C i).2.2) (tN t-1):=by unfold bF;rw[if_neg (by rw[h0];decide),if_neg (by rw[hr];decide),if_neg (by rintro ⟨c, -⟩;exact h6 c)]
   have key:=CY (g13:=fun _=>default) hX ho h0 hs hc (fun k a b eom e f e4=>by
    unfold al
    rw[if_neg (show¬k=6 by omega),if_neg (show¬k=6 by omega)]) (fun e=>CX hX ho h0 hs (.inl hk) e) (tN t-1) 0 (by omega) (fun j h=>absurd h (Nat.not_lt_zero _)) g1 g2 (.inl rfl)
   simp_all
 |f+1,i,hi,hj,q,hq=>by
  have hN:=(kv h0 hs).2
  have hB:pV (X.fy θ1 8 X.cs) Tryz.prog GL 8:=⟨hX.P,hX.gl,rfl⟩
  have ti:((i:Int)).toNat=i:=Int.toNat_natCast _
  refine GQ hB ⟨fun _=> ?_,fun c=>absurd (show(i:Int)<((tN t:Nat):Int)by omega) c⟩
  rw[ti]
  refine⟨show(0:Int)≤i∧(i:Int)<((tN t:Nat):Int)by omega,hC,fJ.of (sV h0 hs (i:=i) (by omega)),fun c=> ?_,fun c=> ?_⟩
  ·have e:bF t C=(tR t C i).2:=by
    have e0:dW (fun i=>(tR t C i).2) (tN t)=(tR t C i).2:=gY (f:=fun i=>(tR t C i).2) hj c (by omega)
    unfold bF;rw[if_neg (by rw[h0];decide),if_pos (by rw[e0];exact c),e0]
   refine My ?_ ho c
   show Fi X _ _ (.af [_,I (tR t C i).2]) []
   rw[←e]
   exact fk rfl hX (by rw[e];exact c)
  ·refine⟨fun k=>(tR t C k).1,fun k hk=> ?_,by omega,aT (by omega), ?_⟩
   ·by_cases d:k<i
    ·grind
    ·rw[if_neg d,show k=i by omega];rfl
   ·exact GM hX ho h0 hs hC h12 f (i+1) (by omega) (fun j h=>by
     rcases Nat.lt_or_ge j i with d|d
     ·exact hj j d
     ·rw[show j=i by omega];exact c) _ (.inr rfl)
theorem Ma (t:cj) {C:Cl} (hs:xk t) (hC:bU C):S 31 [KN t,qY C] (aB C) (Bi t C (bF t C)) (zC t C):=by
 refine ab.st fun X hX=>HZ hX ?_
 refine Ok.Gr (g:= .tmp 15) (cf:=49) (bs:=[.ptr 5 0, .ptr 7 0, .ptr 4 0]) (by kernel_rfl) (by kernel_rfl) (fun θ1 ho hn=> ?_)
 have hB:pV (X.fy θ1 8 X.cs) Tryz.prog GL 8:=⟨hX.P,hX.gl,rfl⟩
 refine JX (X:=X.fy θ1 8 X.cs) hB ⟨hs,fun c=> ?_,fun c=> ?_⟩
 ·grind [fk,Mz,bF,fO]
 ·exact GM hX ho c hs hC rfl (tN t) 0 (by omega) (fun j h=>absurd h (Nat.not_lt_zero _)) _ (.inl rfl)
end Go.Proofs.YtelidogcomffkaaGreatDoor
