/-
Rules (chapter 12), of both.
-/
import Derived.Test.YtelidogcomffkaaGreatDoorThi
import Derived.Test.YtelidogcomffkaaGreatDoorProg
import Derived.KernelRfl
set_option linter.unusedSectionVars false
set_option linter.unusedSimpArgs false
set_option linter.unusedVariables false
set_option maxRecDepth 100000
namespace Go.Proofs.YtelidogcomffkaaGreatDoor
open Go Go.Sx
variable [Env]
theorem aT {x:Int} (h: -9000000000000000000≤x∧x≤9000000000000000000):Ir x:=by simp only[Ir,aj];omega
def vS (m:Int):Int:=bY (m/12)+cq (m/12) (m%12).toNat
def yq (m:Int):Int:=len (m/12) (m%12+1)
def aI (n:Int):Int:=12*cY n+cM n-1
theorem tz {m:Int} (h:12≤m):vS (m+1)=vS m+yq m:=by
 unfold vS yq
 by_cases c:m%12=11
 ·have e1:(m+1)/12=m/12+1:=by omega
  have e2:(m+1)%12=0:=by omega
  rw[e1,e2,c,fF _ (by omega)]
  have h12:=wM (m/12)
  have h3:cq (m/12) 12=cq (m/12) 11+len (m/12) 12:=rfl
  have e3:cq (m/12+1) (Int.toNat 0)=0:=rfl
  have e4:cq (m/12) (Int.toNat 11)=cq (m/12) 11:=rfl
  rw[e3,e4,show(11:Int)+1=12 from rfl]
  omega
 ·have e1:(m+1)/12=m/12:=by omega
  obtain⟨j,hj⟩: ∃ j:Nat,m%12=(j:Int):=⟨(m%12).toNat,by omega⟩
  have e2:(m+1)%12=((j+1:Nat):Int):=by omega
  rw[e1,e2,hj,Int.toNat_natCast,Int.toNat_natCast]
  show bY (m/12)+(cq (m/12) j+len (m/12) ((j+1:Nat):Int))=_
  rw[show((j+1:Nat):Int)=(j:Int)+1 by omega];omega
theorem mO {y m:Int} (h1:1≤m) (h2:m≤12):28≤len y m:=by
 unfold len
 rw[if_neg (by omega)]
 split
 ·omega
 ·have:m=1∨m=2∨m=3∨m=4∨m=5∨m=6∨m=7∨m=8∨m=9∨m=10∨m=11∨m=12:=by omega
  rcases this with rfl|rfl|rfl|rfl|rfl|rfl|rfl|rfl|rfl|rfl|rfl|rfl<;>decide
theorem zL (m:Int):28≤yq m∧yq m≤31:=⟨mO (by omega) (by omega),(ib _ _).1⟩
theorem yp {m:Int} (h:12≤m): ∀ k:Nat,vS m+28*(k:Int)≤vS (m+k)∧vS (m+k)≤vS m+31*(k:Int)
 |0=>by simp
 |k+1=>by
  have h1:=yp h k
  have h2:=tz (m:=m+k) (by omega)
  have h3:=zL (m+k)
  rw[show m+((k+1:Nat):Int)=m+(k:Int)+1 by omega,h2]
  omega
theorem zK {m m':Int} (h:12≤m) (h':m≤m'):vS m+28*(m'-m)≤vS m'∧vS m'≤vS m+31*(m'-m):=by
 obtain⟨k,hk⟩: ∃ k:Nat,m'=m+(k:Int):=⟨(m'-m).toNat,by omega⟩
 subst hk
 have:=yp h k
 omega
theorem Cs:vS 12=0:=rfl
theorem DZ:vS 120000=3652059:=rfl
theorem sy {n:Int} (h:ai n=true):12≤aI n∧aI n≤119999∧1≤cD n∧cD n≤yq (aI n)∧n=vS (aI n)+cD n:=by
 obtain⟨-,h1,h2,h3,h4,h5,h6, -,h8⟩:=cL h
 have e1:aI n/12=cY n:=by unfold aI;omega
 have e2:aI n%12=cM n-1:=by unfold aI;omega
 refine⟨by unfold aI;omega,by unfold aI;omega,h5, ?_, ?_⟩
 ·unfold yq;rw[e1,e2,show cM n-1+1=cM n by omega];exact h6
 ·unfold vS;rw[e1,e2];exact h8
def FA (n:Int) (eom:Bool) (m:Int):Int:=if(eom&&aF n)=true then yq m else if cD n≤yq m then cD n else yq m
theorem wk {n:Int} (h:ai n=true) (eom:Bool) (m:Int):1≤FA n eom m∧FA n eom m≤yq m:=by
 obtain⟨-, -,h1, -, -⟩:=sy h
 have:=zL m
 unfold FA
 split
 ·omega
 ·split<;>omega
def mv (n k:Int) (eom:Bool):Int×Int:=if ai n=true∧12≤aI n+k∧aI n+k≤119999 then(vS (aI n+k)+FA n eom (aI n+k),0)else(0,3)
theorem yl {n k:Int} {eom:Bool} (h:ai n=true∧12≤aI n+k∧aI n+k≤119999):mv n k eom=(vS (aI n+k)+FA n eom (aI n+k),0):=by unfold mv;rw[if_pos h]
theorem rJ {n k:Int} {eom:Bool} (h: ¬(ai n=true∧12≤aI n+k∧aI n+k≤119999)):mv n k eom=(0,3):=by unfold mv;rw[if_neg h]
theorem zI {n k:Int} {eom:Bool}:(mv n k eom).2=0↔ai n=true∧12≤aI n+k∧aI n+k≤119999:=by
 unfold mv;split
 ·rename_i h;exact⟨fun _=>h,fun _=>rfl⟩
 ·rename_i h;exact⟨fun c=>absurd c (by decide),fun c=>absurd c h⟩
theorem oz {n:Int} (h:ai n=true) (eom:Bool):mv n 0 eom=(n,0):=by
 obtain⟨h1,h2,h3,h4,h5⟩:=sy h
 rw[yl ⟨h,by omega,by omega⟩,Int.add_zero]
 have:FA n eom (aI n)=cD n:=by
  unfold FA
  split
  ·rename_i c
   rw[Bool.and_eq_true]at c
   have:=c.2
   unfold aF at this
   rw[Bool.and_eq_true,beq_iff_eq]at this
   have e1:aI n/12=cY n:=by
    obtain⟨-,g1,g2,g3,g4, -⟩:=cL h
    unfold aI;omega
   have e2:aI n%12=cM n-1:=by
    obtain⟨-,g1,g2,g3,g4, -⟩:=cL h
    unfold aI;omega
   unfold yq;rw[e1,e2,show cM n-1+1=cM n by omega];exact this.2.symm
  ·first|rfl|exact if_pos h4
 rw[this,←h5]
theorem yx {m d:Int} (h1:12≤m) (h2:m≤119999) (h3:1≤d) (h4:d≤yq m):ai (vS m+d)=true:=by
 have a:=zK (m:=12) (m':=m) (by decide) h1
 have b:=zK (m:=m+1) (m':=120000) (by omega) (by omega)
 have c:=tz h1
 rw[Cs]at a
 rw[DZ]at b
 rw[aP];omega
theorem DV {n k:Int} {eom:Bool} (h:(mv n k eom).2=0):ai (mv n k eom).1=true:=by
 have h':=zI.1 h
 have:=wk h'.1 eom (aI n+k)
 rw[yl h']
 exact yx h'.2.1 h'.2.2 this.1 this.2
theorem Hk {n k k':Int} {eom:Bool} (h:(mv n k eom).2=0) (h':(mv n k' eom).2=0) (hk:k<k'):(mv n k eom).1+28*(k'-k)-30≤(mv n k' eom).1∧(mv n k eom).1<(mv n k' eom).1:=by
 have g:=zI.1 h
 have g':=zI.1 h'
 have t:=wk g.1 eom (aI n+k)
 have t':=wk g.1 eom (aI n+k')
 rw[yl g,yl g']
 have a:=zK (m:=aI n+k+1) (m':=aI n+k') (by omega) (by omega)
 have b:=tz (m:=aI n+k) (by omega)
 have c:=zL (aI n+k)
 simp only
 omega
theorem Cr {m d:Int} (h1:12≤m) (h2:m≤119999) (h3:1≤d) (h4:d≤yq m):dL (m/12) (m%12+1) d=true:=by
 unfold dL;unfold yq at h4;exact decide_eq_true ⟨by omega,by omega,by omega,by omega,h3,h4⟩
theorem tr (m d:Int):mL (m/12) (m%12+1) d=vS m+d:=by
 unfold mL vS;rw[show m%12+1-1=m%12 by omega];omega
end Go.Proofs.YtelidogcomffkaaGreatDoor
namespace Go.Proofs.YtelidogcomffkaaGreatDoor
open Go Go.Sx
variable [Env]
def bV (y m d:Int):Int:=if dL y m d=true then mL y m d else 0
def jF (y m d:Int):Int:=if dL y m d=true then 0 else 3
theorem fE (y m d:Int):S 180 [.agg [I y,I m,I d]] [] (.af [I (bV y m d),I (jF y m d)]) []:=by
 unfold bV jF
 rcases aq (dL y m d)with h|h
 ·rw[if_pos h,if_pos h];exact BS h
 ·rw[if_neg (by rw[h];decide),if_neg (by rw[h];decide)];exact yP h
theorem dY (y m d:Int):S 112 [.agg [I y,I m,I d]] [] (.af [I (bV y m d),I (jF y m d)]) []:=by
 unfold bV jF
 rcases aq (dL y m d)with h|h
 ·rw[if_pos h,if_pos h];exact Bd h
 ·rw[if_neg (by rw[h];decide),if_neg (by rw[h];decide)];exact yc h
theorem DU {n k y m:Int} {eom:Bool} (h1:1≤m) (h2:m≤12) (hM:aI n+k=12*y+m-1) (hy:y<1∨9999<y):mv n k eom=(0,3):=rJ (by omega)
theorem DW {n k:Int} {eom:Bool} (h:cE n≠0):mv n k eom=(0,3):=rJ (fun c=>h (pQ.2 c.1))
theorem tw {n k y m d:Int} {eom:Bool} (hn:ai n=true) (h1:1≤m) (h2:m≤12) (hM:aI n+k=12*y+m-1) (hy:1≤y) (hy2:y≤9999)
  (hd:d=if(eom&&aF n)=true then len y m else if cD n≤len y m then cD n else len y m):mv n k eom=(bV y m d,jF y m d):=by
 have e1:(aI n+k)/12=y:=by omega
 have e2:(aI n+k)%12=m-1:=by omega
 have e3:yq (aI n+k)=len y m:=by unfold yq;rw[e1,e2,show m-1+1=m by omega]
 have ht:=wk hn eom (aI n+k)
 have e4:FA n eom (aI n+k)=d:=by unfold FA;rw[e3];exact hd.symm
 rw[yl ⟨hn,by omega,by omega⟩,e4]
 rw[e4]at ht
 have hm:=Cr (m:=aI n+k) (by omega) (by omega) ht.1 ht.2
 have hb:=tr (aI n+k) d
 rw[e1,e2,show m-1+1=m by omega]at hm hb
 unfold bV jF
 rw[if_pos hm,if_pos hm,hb]
theorem Bx {n:Int} (hn:ai n=true):((cY n==cY n)&&((cM n==cM n)&&((cD n==len (cY n) (cM n))&&true)))=aF n:=by
 unfold aF;rw[hn];simp
theorem Hl (a b:Int):aO a b=if a≤b then a else b:=by
 unfold aO;by_cases h:b<a
 ·rw[if_pos h,if_neg (by omega)]
 ·rw[if_neg h,if_pos (by omega)]
theorem Jm {n:Int} (h:cE n≠0):cE n=3:=by unfold cE at h⊢;split at h<;>simp_all
theorem Kx (a1 a2:Int) (a3:Bool):
  S 140 [I a1,I a2,B a3] [] (.af [I (mv a1 a2 a3).1,I (mv a1 a2 a3).2]) []:=by
 refine ab.st fun X hX=> ?_
 refine hX.go [i_,c_ [] (fg a1)] ?_
 by_cases h0:(cE a1)=0
 ·have hn:=pQ.1 h0
  obtain⟨b1,b2, -, -, -⟩:=sy hn
  obtain⟨-,c1,c2,c3,c4,c5,c6, -, -⟩:=cL hn
  refine hX.go [f_ (bne_eq_false_iff_eq.2 h0),i_,i_] ?_
  by_cases h1:a2<(-119988)
  ·exact(hX.to (res':= .af [I 0,I 3]) (by rw[rJ (fun⟨_,c1,c2⟩=>by omega)])).e [n_ 3 (t_ (dt h1)),t_ rt,t_ rt]
  ·refine hX.go [n_ 3 (f_ (df h1))] ?_
   by_cases h2:a2>119988
   ·exact(hX.to (res':= .af [I 0,I 3]) (by rw[rJ (fun⟨_,c1,c2⟩=>by omega)])).e [t_ (dt h2),t_ rt]
   ·have h3:Ir (12*(cY a1)):=by simp only[Ir,aj,aI]at*;omega
    have h4:Ir ((12*(cY a1))+(cM a1)):=by simp only[Ir,aj,aI]at*;omega
    have h5:Ir (((12*(cY a1))+(cM a1))-1):=by simp only[Ir,aj,aI]at*;omega
    have h6:Ir (aI a1+a2):=by simp only[Ir,aj,aI]at*;omega
    refine hX.go [f_ (df h2),q_ h3,q_ h4,q_ h5,q_ h6] ?_
    by_cases h7:(aI a1+a2)<12
    ·exact(hX.to (res':= .af [I 0,I 3]) (by rw[rJ (fun⟨_,c1,c2⟩=>by omega)])).e [n_ 3 (t_ (dt h7)),t_ rt,t_ rt]
    ·refine hX.go [n_ 3 (f_ (df h7))] ?_
     by_cases h8:(aI a1+a2)≥120000
     ·exact(hX.to (res':= .af [I 0,I 3]) (by rw[rJ (fun⟨_,c1,c2⟩=>by omega)])).e [t_ (dt h8),t_ rt]
     ·have h9:(0:Int)≤(aI a1+a2):=by omega
      have h10:Ir ((aI a1+a2)/12):=by simp only[Ir,aj,aI]at*;omega
      have h11:Ir (((aI a1+a2)%12)+1):=by simp only[Ir,aj,aI]at*;omega
      have h12:(0:Int)≤((aI a1+a2)/12):=by omega
      refine hX.go [f_ (df h8),q_ h9,q_ (show(0:Int)<12 from by decide),q_ h10,q_ h9,q_ (show(0:Int)<12 from by decide),q_ h11,d_ 5,c_ [] (show S 179 [.agg [I ((aI a1+a2)/12),I (((aI a1+a2)%12)+1),I (cD a1)]] [] (.agg [I ((aI a1+a2)/12),I (((aI a1+a2)%12)+1),I (len ((aI a1+a2)/12) (((aI a1+a2)%12)+1))]) []from Ga h12),f_ rf] ?_
      rcases aq a3 with h13|h13
      ·refine hX.go [d_ 5,n_ 3 (t_ h13),c_ [] (show S 179 [.agg [I (cY a1),I (cM a1),I (cD a1)]] [] (.agg [I (cY a1),I (cM a1),I (len (cY a1) (cM a1))]) []from Ga (ET _)),t_ h13,t_ h13] ?_
       rcases aq (((cY a1)==(cY a1))&&(((cM a1)==(cM a1))&&(((cD a1)==(len (cY a1) (cM a1)))&&true)))with h14|h14
       ·refine(hX.to (res':= .af [I (bV ((aI a1+a2)/12) ((aI a1+a2)%12+1) (len ((aI a1+a2)/12) (((aI a1+a2)%12)+1))),I (jF ((aI a1+a2)/12) ((aI a1+a2)%12+1) (len ((aI a1+a2)/12) (((aI a1+a2)%12)+1)))]) (by rw[tw (y:=(aI a1+a2)/12) (m:=(aI a1+a2)%12+1) (d:=(len ((aI a1+a2)/12) (((aI a1+a2)%12)+1))) hn (by omega) (by omega) (by omega) (by omega) (by omega) (by rw[Bx hn]at h14;rw[if_pos (by rw[h13,h14];rfl)])])).e [t_ h14,c_ [] (show S 179 [.agg [I ((aI a1+a2)/12),I (((aI a1+a2)%12)+1),I (aO (cD a1) (len ((aI a1+a2)/12) (((aI a1+a2)%12)+1)))]] [] (.agg [I ((aI a1+a2)/12),I (((aI a1+a2)%12)+1),I (len ((aI a1+a2)/12) (((aI a1+a2)%12)+1))]) []from Ga h12),c_ [] (fE ((aI a1+a2)/12) (((aI a1+a2)%12)+1) (len ((aI a1+a2)/12) (((aI a1+a2)%12)+1)))]
       ·refine(hX.to (res':= .af [I (bV ((aI a1+a2)/12) ((aI a1+a2)%12+1) (aO (cD a1) (len ((aI a1+a2)/12) (((aI a1+a2)%12)+1)))),I (jF ((aI a1+a2)/12) ((aI a1+a2)%12+1) (aO (cD a1) (len ((aI a1+a2)/12) (((aI a1+a2)%12)+1))))]) (by rw[tw (y:=(aI a1+a2)/12) (m:=(aI a1+a2)%12+1) (d:=(aO (cD a1) (len ((aI a1+a2)/12) (((aI a1+a2)%12)+1)))) hn (by omega) (by omega) (by omega) (by omega) (by omega) (by rw[Bx hn]at h14;rw[if_neg (by rw[h13,h14];decide)];exact Hl _ _)])).e [f_ h14,c_ [] (fE ((aI a1+a2)/12) (((aI a1+a2)%12)+1) (aO (cD a1) (len ((aI a1+a2)/12) (((aI a1+a2)%12)+1))))]
      ·refine(hX.to (res':= .af [I (bV ((aI a1+a2)/12) ((aI a1+a2)%12+1) (aO (cD a1) (len ((aI a1+a2)/12) (((aI a1+a2)%12)+1)))),I (jF ((aI a1+a2)/12) ((aI a1+a2)%12+1) (aO (cD a1) (len ((aI a1+a2)/12) (((aI a1+a2)%12)+1))))]) (by rw[tw (y:=(aI a1+a2)/12) (m:=(aI a1+a2)%12+1) (d:=(aO (cD a1) (len ((aI a1+a2)/12) (((aI a1+a2)%12)+1)))) hn (by omega) (by omega) (by omega) (by omega) (by omega) (by rw[if_neg (by rw[h13,Bool.false_and];decide)];exact Hl _ _)])).e [d_ 5,n_ 5 (f_ h13),f_ rf,c_ [] (fE ((aI a1+a2)/12) (((aI a1+a2)%12)+1) (aO (cD a1) (len ((aI a1+a2)/12) (((aI a1+a2)%12)+1))))]
 ·exact(hX.to (res':= .af [I 0,I (cE a1)]) (by rw[DW h0];show _=SV.af [I 0,I (cE a1)];rw[Jm h0])).e [t_ (bne_iff_ne.2 h0)]
noncomputable def bT (x1:Int) (b2:Bool) (b3:Bool) (x4:Int) (x5:Int) (x6:Int) (x7:Int) (x8:Int):SC:=
 ⟨[⟨80,bJ 84 [(1,I x1),(2,B b2),(8, .ptr 0 0),(10,B b3),(11,I x4),(12,I x5)],[.code (aa Tryz.f80 [1,1,1,1,1,1,0,0,0]), .inLoop (aa Tryz.f80 [1,1,1,1,1,1,0,0,0]), .inBlock 0, .code (aa Tryz.f80 [1,1,1,1,1,1,1])],{}⟩],[some (.box true [I x6,I x7,I x8])]⟩
noncomputable def bS (x1:Int) (b2:Bool) (b3:Bool) (x4:Int) (x5:Int) (x6:Int) (x7:Int) (x8:Int):SC:=
 ⟨[⟨80,bJ 84 [(1,I x1),(2,B b2),(8, .ptr 0 0),(10,B b3),(11,I x4),(12,I x5)],[.code (aa Tryz.f80 [1,1,1,1,1,1,1,0,0,0]), .inLoop (aa Tryz.f80 [1,1,1,1,1,1,1,0,0,0]), .inBlock 2, .code (aa Tryz.f80 [1,1,1,1,1,1,1,1])],{}⟩],[some (.box true [I x6,I x7,I x8])]⟩
theorem vJ {X:Cx} {n k:Int} {eom:Bool} (hX:Fi X 80 [] (.af [I (mv n k eom).1,I (mv n k eom).2]) []) (hn:ai n=true) (x6 x7:Int) {x1 x4 x5:Int} (h0: ¬x1<0) (hm1:1≤x5) (hm2:x5≤12) (hM:aI n+k=12*x4+x5-1):
  Ok X (bS x1 eom (aF n) x4 x5 x6 x7 (cD n)):=by
 refine hX.go [f_ (df h0)] ?_
 by_cases h1:x4<1
 ·exact(hX.to (res':= .af [I 0,I 3]) (by rw[DU (n:=n) (k:=k) (y:=x4) (m:=x5) hm1 hm2 (by omega) (by omega)])).e [n_ 3 (t_ (dt h1)),t_ rt]
 ·refine hX.go [n_ 3 (f_ (df h1))] ?_
  by_cases h2:x4>9999
  ·exact(hX.to (res':= .af [I 0,I 3]) (by rw[DU (n:=n) (k:=k) (y:=x4) (m:=x5) hm1 hm2 (by omega) (by omega)])).e [t_ (dt h2)]
  ·have h3:(0:Int)≤x4:=by omega
   refine hX.go [f_ (df h2),c_ [] (show S 74 [I x4,I x5] [] (I (len x4 x5)) []from fU h3)] ?_
   by_cases h4:(cD n)>(len x4 x5)
   ·refine(hX.to (res':= .af [I (bV x4 x5 (len x4 x5)),I (jF x4 x5 (len x4 x5))]) (by rw[tw (n:=n) (k:=k) (y:=x4) (m:=x5) (d:=(len x4 x5)) hn hm1 hm2 (by omega) (by omega) (by omega) (by rw[if_neg (c:=cD n≤_) (by omega),ite_self])])).e [n_ 4 (t_ (dt h4)),t_ rt,c_ [] (dY x4 x5 (len x4 x5))]
   ·refine hX.go [f_ (df h4),f_ (df h4)] ?_
    rcases aq eom with h5|h5
    ·refine hX.go [t_ h5,f_ (df h4),t_ h5,f_ (df h4)] ?_
     rcases aq (aF n)with h6|h6
     ·refine(hX.to (res':= .af [I (bV x4 x5 (len x4 x5)),I (jF x4 x5 (len x4 x5))]) (by rw[tw (n:=n) (k:=k) (y:=x4) (m:=x5) (d:=(len x4 x5)) hn hm1 hm2 (by omega) (by omega) (by omega) (by rw[if_pos (by rw[h5,h6];rfl)])])).e [t_ h6,c_ [] (dY x4 x5 (len x4 x5))]
     ·refine(hX.to (res':= .af [I (bV x4 x5 (cD n)),I (jF x4 x5 (cD n))]) (by rw[tw (n:=n) (k:=k) (y:=x4) (m:=x5) (d:=(cD n)) hn hm1 hm2 (by omega) (by omega) (by omega) (by rw[if_neg (by rw[h5,h6];decide),if_pos (by omega)])])).e [f_ h6,c_ [] (dY x4 x5 (cD n))]
    ·refine(hX.to (res':= .af [I (bV x4 x5 (cD n)),I (jF x4 x5 (cD n))]) (by rw[tw (n:=n) (k:=k) (y:=x4) (m:=x5) (d:=(cD n)) hn hm1 hm2 (by omega) (by omega) (by omega) (by rw[if_neg (by rw[h5,Bool.false_and];decide),if_pos (by omega)])])).e [f_ h5,f_ (df h4),f_ h5,f_ (df h4),f_ rf,c_ [] (dY x4 x5 (cD n))]
theorem Dv {X:Cx} {n k:Int} {eom:Bool} (hX:Fi X 80 [] (.af [I (mv n k eom).1,I (mv n k eom).2]) []) (hn:ai n=true) (x6 x7:Int): ∀ (f:Nat) (x1 x4 x5:Int),x1≤0→ -x1≤(f:Int)→1≤x5→x5≤12→aI n+k=12*x4+x5-1+x1→(x4-x1≤500000∧ -500000≤x4+x1)→
  Ok X (bS x1 eom (aF n) x4 x5 x6 x7 (cD n)):=by
 intro f
 induction f with
 |zero=>exact fun x1 x4 x5 g1 g2 g3 g4 g5 _=>vJ hX hn x6 x7 (by omega) g3 g4 (by omega)
 |succ f ih=>
  intro x1 x4 x5 g1 g2 g3 g4 g5 g6
  by_cases h0:x1<0
  ·have h1:Ir (x5-1):=by simp only[Ir,aj];omega
   refine hX.go [t_ (dt h0),q_ h1] ?_
   by_cases h2:(x5-1)<1
   ·have h3:Ir (x4-1):=by simp only[Ir,aj];omega
    have h4:Ir (x1+1):=by simp only[Ir,aj];omega
    exact hX.h 17 [t_ (dt h2),q_ h3,q_ h4] (aA 1) (show Ok X (bS (x1+1) eom (aF n) (x4-1) 12 x6 x7 (cD n))from ih _ _ _ (by omega) (by omega) (by omega) (by omega) (by omega) (by omega))
   ·have h3:Ir (x1+1):=by simp only[Ir,aj];omega
    exact hX.h 9 [f_ (df h2),q_ h3] (aA 1) (show Ok X (bS (x1+1) eom (aF n) x4 (x5-1) x6 x7 (cD n))from ih _ _ _ (by omega) (by omega) (by omega) (by omega) (by omega) (by omega))
  ·exact vJ hX hn x6 x7 h0 g3 g4 (by omega)
theorem Dw {X:Cx} {n k:Int} {eom:Bool} (hX:Fi X 80 [] (.af [I (mv n k eom).1,I (mv n k eom).2]) []) (hn:ai n=true) (x6 x7:Int): ∀ (f:Nat) (x1 x4 x5:Int),x1≤(f:Int)→ -x1≤200000→1≤x5→x5≤12→aI n+k=12*x4+x5-1+x1→(x4+x1≤250000∧ -150000≤x4∧x4≤250000)→
  Ok X (bT x1 eom (aF n) x4 x5 x6 x7 (cD n)):=by
 intro f
 have key: ∀ (x1 x4 x5:Int),¬x1>0→ -x1≤200000→1≤x5→x5≤12→aI n+k=12*x4+x5-1+x1→(-150000≤x4∧x4≤250000)→Ok X (bT x1 eom (aF n) x4 x5 x6 x7 (cD n)):=fun x1 x4 x5 h0 g2 g3 g4 g5 g6=>by
  exact hX.h 11 [f_ (df h0)] (aA 1) (show Ok X (bS x1 eom (aF n) x4 x5 x6 x7 (cD n))from Dv hX hn x6 x7 200000 x1 x4 x5 (by omega) (by omega) g3 g4 g5 (by omega))
 induction f with
 |zero=>exact fun x1 x4 x5 g1 g2 g3 g4 g5 g6=>key x1 x4 x5 (by omega) g2 g3 g4 g5 ⟨by omega,by omega⟩
 |succ f ih=>
  intro x1 x4 x5 g1 g2 g3 g4 g5 g6
  by_cases h0:x1>0
  ·have h1:Ir (x5+1):=by simp only[Ir,aj];omega
   refine hX.go [t_ (dt h0),q_ h1] ?_
   by_cases h2:(x5+1)>12
   ·have h3:Ir (x4+1):=by simp only[Ir,aj];omega
    have h4:Ir (x1-1):=by simp only[Ir,aj];omega
    exact hX.h 17 [t_ (dt h2),q_ h3,q_ h4] (aA 1) (show Ok X (bT (x1-1) eom (aF n) (x4+1) 1 x6 x7 (cD n))from ih _ _ _ (by omega) (by omega) (by omega) (by omega) (by omega) (by omega))
   ·have h3:Ir (x1-1):=by simp only[Ir,aj];omega
    exact hX.h 9 [f_ (df h2),q_ h3] (aA 1) (show Ok X (bT (x1-1) eom (aF n) x4 (x5+1) x6 x7 (cD n))from ih _ _ _ (by omega) (by omega) (by omega) (by omega) (by omega) (by omega))
  ·exact key x1 x4 x5 h0 g2 g3 g4 g5 ⟨by omega,by omega⟩
theorem G8 (a1 a2:Int) (a3:Bool):
  S 80 [I a1,I a2,B a3] [] (.af [I (mv a1 a2 a3).1,I (mv a1 a2 a3).2]) []:=by
 refine ab.st fun X hX=> ?_
 refine hX.go [c_ [] (rX a1)] ?_
 by_cases h0:(cE a1)=0
 ·have hn:=pQ.1 h0
  obtain⟨b1,b2, -, -, -⟩:=sy hn
  obtain⟨-,c1,c2,c3,c4,c5,c6, -, -⟩:=cL hn
  refine hX.go [n_ 3 (f_ (bne_eq_false_iff_eq.2 h0))] ?_
  by_cases h1:a2>200000
  ·exact(hX.to (res':= .af [I 0,I 3]) (by rw[rJ (fun⟨_,c1,c2⟩=>by omega)])).e [n_ 3 (t_ (dt h1)),t_ rt]
  ·refine hX.go [n_ 3 (f_ (df h1))] ?_
   by_cases h2:a2<(-200000)
   ·exact(hX.to (res':= .af [I 0,I 3]) (by rw[rJ (fun⟨_,c1,c2⟩=>by omega)])).e [t_ (dt h2)]
   ·exact hX.h 23 [f_ (df h2),c_ [] (Be a1)] (aA 1) (show Ok X (bT a2 a3 (aF a1) (cY a1) (cM a1) (cY a1) (cM a1) (cD a1))from Dw hX hn _ _ 200000 _ _ _ (by omega) (by omega) c1 c2 (by unfold aI;omega) (by omega))
 ·exact(hX.to (res':= .af [I 0,I 3]) (by rw[DW h0])).e [n_ 3 (t_ (bne_iff_ne.2 h0)),n_ 4 (t_ rt)]
end Go.Proofs.YtelidogcomffkaaGreatDoor
namespace Go.Proofs.YtelidogcomffkaaGreatDoor
open Go Go.Sx
variable [Env]
def bI (n:Int):Int:=(n%7+6)%7
theorem sa {a1:Int} {res:SV} (H:(0:Int)≤a1∧Ir ((a1%7)+6)∧(0:Int)≤((a1%7)+6)∧(I (((a1%7)+6)%7):SV)=res):
  S 208 [I a1] [] (res) []:=by
 refine ab.st fun X hX=> ?_
 obtain⟨h0,h1,h2,HE⟩:=H
 exact(hX.to HE.symm).e [q_ h0,q_ (show(0:Int)<7 from by decide),q_ h1,q_ h2,q_ (show(0:Int)<7 from by decide)]
theorem iv {a1:Int} {res:SV} (H:(0:Int)≤a1∧Ir ((a1%7)+7)∧(0:Int)≤((a1%7)+7)∧((((a1%7)+7)%7)=0→(I 6:SV)=res)∧((((a1%7)+7)%7)≠0→Ir ((((a1%7)+7)%7)-1)∧(I ((((a1%7)+7)%7)-1):SV)=res)):
  S 128 [I a1] [] (res) []:=by
 refine ab.st fun X hX=> ?_
 obtain⟨h0,h1,h2,L3,K3⟩:=H
 refine hX.go [q_ h0,q_ (show(0:Int)<7 from by decide),q_ h1,q_ h2,q_ (show(0:Int)<7 from by decide)] ?_
 by_cases h3:(((a1%7)+7)%7)=0
 ·have HE:=L3 h3
  exact(hX.to HE.symm).e [t_ (beq_iff_eq.2 h3)]
 ·obtain⟨h4,HE⟩:=K3 h3
  exact(hX.to HE.symm).e [f_ (beq_eq_false_iff_ne.2 h3),q_ h4]
theorem BO {n:Int} (h:(0:Int)≤n):S 208 [I n] [] (I (bI n)) []:=sa ⟨h,aT (by omega),by omega,rfl⟩
theorem A9 {n:Int} (h:(0:Int)≤n):S 128 [I n] [] (I (bI n)) []:=by
 refine iv ⟨h,aT (by omega),by omega,fun c=> ?_,fun c=>⟨aT (by omega), ?_⟩⟩
 all_goals grind [bI]
theorem qF (n:Int):0≤bI n∧bI n≤6:=by unfold bI;omega
theorem wJ {y m d:Int} (h:dL y m d=true):ai (mL y m d)=true:=by
 unfold dL at h
 have h:=of_decide_eq_true h
 have e1:(12*y+m-1)/12=y:=by omega
 have e2:(12*y+m-1)%12+1=m:=by omega
 have:=tr (12*y+m-1) d
 rw[e1,e2]at this
 rw[this]
 exact yx (by omega) (by omega) h.2.2.2.2.1 (by unfold yq;rw[e1,e2];exact h.2.2.2.2.2)
theorem cV (y m d:Int):0≤bV y m d∧bV y m d≤3652059:=by
 unfold bV;split
 ·rename_i h;have:=aP.1 (wJ h);omega
 ·omega
def vb (y:Int):Int:=(((((19*(y%19))+(y/100))-((y/100)/4))-((((y/100)-(((y/100)+8)/25))+1)/3))+15)%30
def Hu (y:Int):Int:=((((32+(2*((y/100)%4)))+(2*((y%100)/4)))-vb y)-((y%100)%4))%7
def KT (y:Int):Int:=(((y%19)+(11*vb y))+(22*Hu y))/451
def vZ (y:Int):Int:=((vb y+Hu y)-(7*KT y))+114
def yH (y:Int):Int:=bV y (vZ y/31) ((vZ y%31)+1)
def uN (y:Int):Int:=if y<1∨y>9999 then 0 else yH y
def BJ (y:Int):Int:=if y<1∨y>9999 then 3 else 0
theorem cy (y:Int):vb y=(((((19*(y%19))+(y/100))-((y/100)/4))-((((y/100)-(((y/100)+8)/25))+1)/3))+15)%30:=rfl
theorem cx (y:Int):Hu y=((((32+(2*((y/100)%4)))+(2*((y%100)/4)))-vb y)-((y%100)%4))%7:=rfl
theorem cW (y:Int):0≤vb y∧vb y≤29:=by rw[cy];exact⟨Int.emod_nonneg _ (by decide),by have:=Int.emod_lt_of_pos (((((19*(y%19))+(y/100))-((y/100)/4))-((((y/100)-(((y/100)+8)/25))+1)/3))+15) (show(0:Int)<30 by decide);omega⟩
theorem dn (y:Int):0≤Hu y∧Hu y≤6:=by rw[cx];exact⟨Int.emod_nonneg _ (by decide),by have:=Int.emod_lt_of_pos ((((32+(2*((y/100)%4)))+(2*((y%100)/4)))-vb y)-((y%100)%4)) (show(0:Int)<7 by decide);omega⟩
def xR (y:Int):Int:=(((((11*((y%19)+1))+20)+((((8*((y/100)+1))+5)/25)-5))-(((3*((y/100)+1))/4)-12))%30)
def Fo (y:Int):Int:=if(xR y=25∧(y%19)+1>11)∨xR y=24 then xR y+1 else xR y
def Ip (y:Int):Int:=if 44-Fo y<21 then(44-Fo y)+30 else 44-Fo y
def zr (y:Int):Int:=bV y 3 1+Ip y-1+1
theorem D2 (y:Int):len y 3=31:=by simp[len,lens]
theorem Ke (y:Int):len y 4=30:=by simp[len,lens]
theorem IQ (y:Int):cq y 2=59+(if lp y=true then 1 else 0)∧cq y 3=90+(if lp y=true then 1 else 0):=by
 cases h:lp y<;>simp[cq,len,h,lens]
theorem Bt {y:Int} (h1:1≤y) (h2:y≤9999) (d:Int):mL y 3 d=365*y+y/4-y/100+y/400-306+d∧mL y 4 d=365*y+y/4-y/100+y/400-275+d:=by
 have hl:=fF y h1
 have e:bY (y+1)=365*y+y/4-y/100+y/400:=by unfold bY;rw[show y+1-1=y by omega]
 obtain⟨m2,m3⟩:=IQ y
 constructor
 ·unfold mL;rw[show((3:Int)-1).toNat=2 from rfl,m2];omega
 ·unfold mL;rw[show((4:Int)-1).toNat=3 from rfl,m3];omega
theorem LM {y:Int}:KT y=if Hu y=6∧(vb y=29∨vb y=28∧10<y%19)then 1 else 0:=by
 have h1:=cW y;have h2:=dn y
 unfold KT
 split<;>omega
theorem Gn {y:Int} (h1:1≤y) (h2:y≤9999):Ip y=vb y+21-(if vb y=29∨vb y=28∧10<y%19 then 1 else 0):=by
 have key:(xR y+vb y)=23∨xR y+vb y=53:=by
  have g1:(3*(y/100+1))/4=y/100-y/100/4:=by omega
  have g2:(y/100-(y/100+8)/25+1)/3=(8*(y/100+1)+5)/25+0-0-(y/100-0)+y/100+(y/100-(y/100+8)/25+1)/3-(8*(y/100+1)+5)/25:=by omega
  have g3:(y/100-(y/100+8)/25+1)/3=(8*(y/100+1)+5)/25:=by omega
  grind [cy,xR]
 have r:=Int.emod_nonneg ((((11*((y%19)+1))+20)+((((8*((y/100)+1))+5)/25)-5))-(((3*((y/100)+1))/4)-12)) (show(30:Int)≠0 by decide)
 have r':=Int.emod_lt_of_pos ((((11*((y%19)+1))+20)+((((8*((y/100)+1))+5)/25)-5))-(((3*((y/100)+1))/4)-12)) (show(0:Int)<30 by decide)
 have r1:0≤xR y∧xR y≤29:=⟨r,by unfold xR;omega⟩
 have h3:=cW y
 unfold Ip Fo
 omega
theorem Jd {y:Int} (h1:1≤y) (h2:y≤9999):bI (bV y 3 1+vb y+21)=6-Hu y:=by
 have hm:bV y 3 1=365*y+y/4-y/100+y/400-305:=by
  unfold bV;rw[if_pos (by unfold dL;rw[D2];exact decide_eq_true (by omega)),(Bt h1 h2 1).1];omega
 rw[hm,cx]
 unfold bI
 generalize vb y=h
 have e1:y/4=25*(y/100)+y%100/4:=by omega
 have e2:y/400=y/100/4:=by omega
 rw[e1,e2]
 omega
theorem Ey {y:Int} (h1:1≤y) (h2:y≤9999):dL y (vZ y/31) ((vZ y%31)+1)=true∧zr y+(6-bI (zr y))=yH y∧0≤Ip y∧Ip y≤60:=by
 have hm:bV y 3 1=365*y+y/4-y/100+y/400-305:=by
  unfold bV;rw[if_pos (by unfold dL;rw[D2];exact decide_eq_true (by omega)),(Bt h1 h2 1).1];omega
 have a:=Gn h1 h2
 have b:=Jd h1 h2
 have c:=LM (y:=y)
 have d:=cW y
 have e:=dn y
 have hS:vZ y=vb y+Hu y-7*KT y+114:=rfl
 have hM:dL y (vZ y/31) ((vZ y%31)+1)=true∧yH y=bV y 3 1+(vZ y-93):=by
  have hr:114≤vZ y∧vZ y≤148:=by rw[hS,c];split<;>omega
  unfold yH
  rcases(show vZ y/31=3∨vZ y/31=4 by omega)with g|g
  ·have hmay:dL y (vZ y/31) ((vZ y%31)+1)=true:=by rw[g];unfold dL;rw[D2];exact decide_eq_true (by omega)
   refine⟨hmay, ?_⟩
   conv=>lhs;unfold bV
   grind [Bt]
  ·have hmay:dL y (vZ y/31) ((vZ y%31)+1)=true:=by rw[g];unfold dL;rw[Ke];exact decide_eq_true (by omega)
   refine⟨hmay, ?_⟩
   conv=>lhs;unfold bV
   rw[if_pos hmay,g,(Bt h1 h2 _).2,hm];omega
 refine⟨hM.1, ?_,by rw[a];split<;>omega,by rw[a];split<;>omega⟩
 rw[hM.2,hS,c]
 have hD:zr y=bV y 3 1+vb y+21-(if vb y=29∨vb y=28∧10<y%19 then 1 else 0):=by unfold zr;rw[a];omega
 rw[hD]
 unfold bI at b⊢
 grind
theorem wU {a1:Int} {res:SV} (H:(a1<1→((.af [I 0,I 3]):SV)=res)∧(¬a1<1→(a1>9999→((.af [I 0,I 3]):SV)=res)∧(¬a1>9999→((.af [I (bV a1 ((((((((((19*(a1%19))+(a1/100))-((a1/100)/4))-((((a1/100)-(((a1/100)+8)/25))+1)/3))+15)%30)+(((((32+(2*((a1/100)%4)))+(2*((a1%100)/4)))-((((((19*(a1%19))+(a1/100))-((a1/100)/4))-((((a1/100)-(((a1/100)+8)/25))+1)/3))+15)%30))-((a1%100)%4))%7))-(7*((((a1%19)+(11*((((((19*(a1%19))+(a1/100))-((a1/100)/4))-((((a1/100)-(((a1/100)+8)/25))+1)/3))+15)%30)))+(22*(((((32+(2*((a1/100)%4)))+(2*((a1%100)/4)))-((((((19*(a1%19))+(a1/100))-((a1/100)/4))-((((a1/100)-(((a1/100)+8)/25))+1)/3))+15)%30))-((a1%100)%4))%7)))/451)))+114)/31) (((((((((((19*(a1%19))+(a1/100))-((a1/100)/4))-((((a1/100)-(((a1/100)+8)/25))+1)/3))+15)%30)+(((((32+(2*((a1/100)%4)))+(2*((a1%100)/4)))-((((((19*(a1%19))+(a1/100))-((a1/100)/4))-((((a1/100)-(((a1/100)+8)/25))+1)/3))+15)%30))-((a1%100)%4))%7))-(7*((((a1%19)+(11*((((((19*(a1%19))+(a1/100))-((a1/100)/4))-((((a1/100)-(((a1/100)+8)/25))+1)/3))+15)%30)))+(22*(((((32+(2*((a1/100)%4)))+(2*((a1%100)/4)))-((((((19*(a1%19))+(a1/100))-((a1/100)/4))-((((a1/100)-(((a1/100)+8)/25))+1)/3))+15)%30))-((a1%100)%4))%7)))/451)))+114)%31)+1)),I (jF a1 ((((((((((19*(a1%19))+(a1/100))-((a1/100)/4))-((((a1/100)-(((a1/100)+8)/25))+1)/3))+15)%30)+(((((32+(2*((a1/100)%4)))+(2*((a1%100)/4)))-((((((19*(a1%19))+(a1/100))-((a1/100)/4))-((((a1/100)-(((a1/100)+8)/25))+1)/3))+15)%30))-((a1%100)%4))%7))-(7*((((a1%19)+(11*((((((19*(a1%19))+(a1/100))-((a1/100)/4))-((((a1/100)-(((a1/100)+8)/25))+1)/3))+15)%30)))+(22*(((((32+(2*((a1/100)%4)))+(2*((a1%100)/4)))-((((((19*(a1%19))+(a1/100))-((a1/100)/4))-((((a1/100)-(((a1/100)+8)/25))+1)/3))+15)%30))-((a1%100)%4))%7)))/451)))+114)/31) (((((((((((19*(a1%19))+(a1/100))-((a1/100)/4))-((((a1/100)-(((a1/100)+8)/25))+1)/3))+15)%30)+(((((32+(2*((a1/100)%4)))+(2*((a1%100)/4)))-((((((19*(a1%19))+(a1/100))-((a1/100)/4))-((((a1/100)-(((a1/100)+8)/25))+1)/3))+15)%30))-((a1%100)%4))%7))-(7*((((a1%19)+(11*((((((19*(a1%19))+(a1/100))-((a1/100)/4))-((((a1/100)-(((a1/100)+8)/25))+1)/3))+15)%30)))+(22*(((((32+(2*((a1/100)%4)))+(2*((a1%100)/4)))-((((((19*(a1%19))+(a1/100))-((a1/100)/4))-((((a1/100)-(((a1/100)+8)/25))+1)/3))+15)%30))-((a1%100)%4))%7)))/451)))+114)%31)+1))]):SV)=res))):
  S 265 [I a1] [] (res) []:=by
 refine ab.st fun X hX=> ?_
 obtain⟨L0,K0⟩:=H
 by_cases h0:a1<1
 ·have HE:=L0 h0
  exact(hX.to HE.symm).e [n_ 3 (t_ (dt h0)),t_ rt]
 ·obtain⟨L1,K1⟩:=K0 h0
  refine hX.go [n_ 3 (f_ (df h0))] ?_
  by_cases h1:a1>9999
  ·have HE:=L1 h1
   exact(hX.to HE.symm).e [t_ (dt h1)]
  ·have h2:(0:Int)≤a1:=by omega
   have h3:Ir (a1/100):=aT (by omega)
   have h4:Ir (19*(a1%19)):=aT (by omega)
   have h5:Ir ((19*(a1%19))+(a1/100)):=aT (by omega)
   have h6:(0:Int)≤(a1/100):=by omega
   have h7:Ir ((a1/100)/4):=aT (by omega)
   have h8:Ir (((19*(a1%19))+(a1/100))-((a1/100)/4)):=aT (by omega)
   have h9:Ir ((a1/100)+8):=aT (by omega)
   have h10:(0:Int)≤((a1/100)+8):=by omega
   have h11:Ir (((a1/100)+8)/25):=aT (by omega)
   have h12:Ir ((a1/100)-(((a1/100)+8)/25)):=aT (by omega)
   have h13:Ir (((a1/100)-(((a1/100)+8)/25))+1):=aT (by omega)
   have h14:(0:Int)≤(((a1/100)-(((a1/100)+8)/25))+1):=by omega
   have h15:Ir ((((a1/100)-(((a1/100)+8)/25))+1)/3):=aT (by omega)
   have h16:Ir ((((19*(a1%19))+(a1/100))-((a1/100)/4))-((((a1/100)-(((a1/100)+8)/25))+1)/3)):=aT (by omega)
   have h17:Ir (((((19*(a1%19))+(a1/100))-((a1/100)/4))-((((a1/100)-(((a1/100)+8)/25))+1)/3))+15):=aT (by omega)
   have h18:(0:Int)≤(((((19*(a1%19))+(a1/100))-((a1/100)/4))-((((a1/100)-(((a1/100)+8)/25))+1)/3))+15):=by omega
   have h19:Ir (2*((a1/100)%4)):=aT (by omega)
   have h20:Ir (32+(2*((a1/100)%4))):=aT (by omega)
   have h21:(0:Int)≤(a1%100):=by omega
   have h22:Ir ((a1%100)/4):=aT (by omega)
   have h23:Ir (2*((a1%100)/4)):=aT (by omega)
   have h24:Ir ((32+(2*((a1/100)%4)))+(2*((a1%100)/4))):=aT (by omega)
   have h25:Ir (((32+(2*((a1/100)%4)))+(2*((a1%100)/4)))-((((((19*(a1%19))+(a1/100))-((a1/100)/4))-((((a1/100)-(((a1/100)+8)/25))+1)/3))+15)%30)):=aT (by have q1:=cW a1;have q2:=dn a1;simp only[←cy,←cx];omega)
   have h26:Ir ((((32+(2*((a1/100)%4)))+(2*((a1%100)/4)))-((((((19*(a1%19))+(a1/100))-((a1/100)/4))-((((a1/100)-(((a1/100)+8)/25))+1)/3))+15)%30))-((a1%100)%4)):=aT (by have q1:=cW a1;have q2:=dn a1;simp only[←cy,←cx];omega)
   have h27:(0:Int)≤((((32+(2*((a1/100)%4)))+(2*((a1%100)/4)))-((((((19*(a1%19))+(a1/100))-((a1/100)/4))-((((a1/100)-(((a1/100)+8)/25))+1)/3))+15)%30))-((a1%100)%4)):=by have q1:=cW a1;have q2:=dn a1;simp only[←cy,←cx];omega
   have h28:Ir (11*((((((19*(a1%19))+(a1/100))-((a1/100)/4))-((((a1/100)-(((a1/100)+8)/25))+1)/3))+15)%30)):=aT (by have q1:=cW a1;have q2:=dn a1;simp only[←cy,←cx];omega)
   have h29:Ir ((a1%19)+(11*((((((19*(a1%19))+(a1/100))-((a1/100)/4))-((((a1/100)-(((a1/100)+8)/25))+1)/3))+15)%30))):=aT (by have q1:=cW a1;have q2:=dn a1;simp only[←cy,←cx];omega)
   have h30:Ir (22*(((((32+(2*((a1/100)%4)))+(2*((a1%100)/4)))-((((((19*(a1%19))+(a1/100))-((a1/100)/4))-((((a1/100)-(((a1/100)+8)/25))+1)/3))+15)%30))-((a1%100)%4))%7)):=aT (by have q1:=cW a1;have q2:=dn a1;simp only[←cy,←cx];omega)
   have h31:Ir (((a1%19)+(11*((((((19*(a1%19))+(a1/100))-((a1/100)/4))-((((a1/100)-(((a1/100)+8)/25))+1)/3))+15)%30)))+(22*(((((32+(2*((a1/100)%4)))+(2*((a1%100)/4)))-((((((19*(a1%19))+(a1/100))-((a1/100)/4))-((((a1/100)-(((a1/100)+8)/25))+1)/3))+15)%30))-((a1%100)%4))%7))):=aT (by have q1:=cW a1;have q2:=dn a1;simp only[←cy,←cx];omega)
   have h32:(0:Int)≤(((a1%19)+(11*((((((19*(a1%19))+(a1/100))-((a1/100)/4))-((((a1/100)-(((a1/100)+8)/25))+1)/3))+15)%30)))+(22*(((((32+(2*((a1/100)%4)))+(2*((a1%100)/4)))-((((((19*(a1%19))+(a1/100))-((a1/100)/4))-((((a1/100)-(((a1/100)+8)/25))+1)/3))+15)%30))-((a1%100)%4))%7))):=by have q1:=cW a1;have q2:=dn a1;simp only[←cy,←cx];omega
   have h33:Ir ((((a1%19)+(11*((((((19*(a1%19))+(a1/100))-((a1/100)/4))-((((a1/100)-(((a1/100)+8)/25))+1)/3))+15)%30)))+(22*(((((32+(2*((a1/100)%4)))+(2*((a1%100)/4)))-((((((19*(a1%19))+(a1/100))-((a1/100)/4))-((((a1/100)-(((a1/100)+8)/25))+1)/3))+15)%30))-((a1%100)%4))%7)))/451):=aT (by have q1:=cW a1;have q2:=dn a1;simp only[←cy,←cx];omega)
   have h34:Ir (((((((19*(a1%19))+(a1/100))-((a1/100)/4))-((((a1/100)-(((a1/100)+8)/25))+1)/3))+15)%30)+(((((32+(2*((a1/100)%4)))+(2*((a1%100)/4)))-((((((19*(a1%19))+(a1/100))-((a1/100)/4))-((((a1/100)-(((a1/100)+8)/25))+1)/3))+15)%30))-((a1%100)%4))%7)):=aT (by have q1:=cW a1;have q2:=dn a1;simp only[←cy,←cx];omega)
   have h35:Ir (7*((((a1%19)+(11*((((((19*(a1%19))+(a1/100))-((a1/100)/4))-((((a1/100)-(((a1/100)+8)/25))+1)/3))+15)%30)))+(22*(((((32+(2*((a1/100)%4)))+(2*((a1%100)/4)))-((((((19*(a1%19))+(a1/100))-((a1/100)/4))-((((a1/100)-(((a1/100)+8)/25))+1)/3))+15)%30))-((a1%100)%4))%7)))/451)):=aT (by have q1:=cW a1;have q2:=dn a1;simp only[←cy,←cx];omega)
   have h36:Ir ((((((((19*(a1%19))+(a1/100))-((a1/100)/4))-((((a1/100)-(((a1/100)+8)/25))+1)/3))+15)%30)+(((((32+(2*((a1/100)%4)))+(2*((a1%100)/4)))-((((((19*(a1%19))+(a1/100))-((a1/100)/4))-((((a1/100)-(((a1/100)+8)/25))+1)/3))+15)%30))-((a1%100)%4))%7))-(7*((((a1%19)+(11*((((((19*(a1%19))+(a1/100))-((a1/100)/4))-((((a1/100)-(((a1/100)+8)/25))+1)/3))+15)%30)))+(22*(((((32+(2*((a1/100)%4)))+(2*((a1%100)/4)))-((((((19*(a1%19))+(a1/100))-((a1/100)/4))-((((a1/100)-(((a1/100)+8)/25))+1)/3))+15)%30))-((a1%100)%4))%7)))/451))):=aT (by have q1:=cW a1;have q2:=dn a1;simp only[←cy,←cx];omega)
   have h37:Ir (((((((((19*(a1%19))+(a1/100))-((a1/100)/4))-((((a1/100)-(((a1/100)+8)/25))+1)/3))+15)%30)+(((((32+(2*((a1/100)%4)))+(2*((a1%100)/4)))-((((((19*(a1%19))+(a1/100))-((a1/100)/4))-((((a1/100)-(((a1/100)+8)/25))+1)/3))+15)%30))-((a1%100)%4))%7))-(7*((((a1%19)+(11*((((((19*(a1%19))+(a1/100))-((a1/100)/4))-((((a1/100)-(((a1/100)+8)/25))+1)/3))+15)%30)))+(22*(((((32+(2*((a1/100)%4)))+(2*((a1%100)/4)))-((((((19*(a1%19))+(a1/100))-((a1/100)/4))-((((a1/100)-(((a1/100)+8)/25))+1)/3))+15)%30))-((a1%100)%4))%7)))/451)))+114):=aT (by have q1:=cW a1;have q2:=dn a1;simp only[←cy,←cx];omega)
   have h38:(0:Int)≤(((((((((19*(a1%19))+(a1/100))-((a1/100)/4))-((((a1/100)-(((a1/100)+8)/25))+1)/3))+15)%30)+(((((32+(2*((a1/100)%4)))+(2*((a1%100)/4)))-((((((19*(a1%19))+(a1/100))-((a1/100)/4))-((((a1/100)-(((a1/100)+8)/25))+1)/3))+15)%30))-((a1%100)%4))%7))-(7*((((a1%19)+(11*((((((19*(a1%19))+(a1/100))-((a1/100)/4))-((((a1/100)-(((a1/100)+8)/25))+1)/3))+15)%30)))+(22*(((((32+(2*((a1/100)%4)))+(2*((a1%100)/4)))-((((((19*(a1%19))+(a1/100))-((a1/100)/4))-((((a1/100)-(((a1/100)+8)/25))+1)/3))+15)%30))-((a1%100)%4))%7)))/451)))+114):=by have q1:=cW a1;have q2:=dn a1;simp only[←cy,←cx];omega
   have h39:Ir ((((((((((19*(a1%19))+(a1/100))-((a1/100)/4))-((((a1/100)-(((a1/100)+8)/25))+1)/3))+15)%30)+(((((32+(2*((a1/100)%4)))+(2*((a1%100)/4)))-((((((19*(a1%19))+(a1/100))-((a1/100)/4))-((((a1/100)-(((a1/100)+8)/25))+1)/3))+15)%30))-((a1%100)%4))%7))-(7*((((a1%19)+(11*((((((19*(a1%19))+(a1/100))-((a1/100)/4))-((((a1/100)-(((a1/100)+8)/25))+1)/3))+15)%30)))+(22*(((((32+(2*((a1/100)%4)))+(2*((a1%100)/4)))-((((((19*(a1%19))+(a1/100))-((a1/100)/4))-((((a1/100)-(((a1/100)+8)/25))+1)/3))+15)%30))-((a1%100)%4))%7)))/451)))+114)/31):=aT (by have q1:=cW a1;have q2:=dn a1;simp only[←cy,←cx];omega)
   have h40:Ir (((((((((((19*(a1%19))+(a1/100))-((a1/100)/4))-((((a1/100)-(((a1/100)+8)/25))+1)/3))+15)%30)+(((((32+(2*((a1/100)%4)))+(2*((a1%100)/4)))-((((((19*(a1%19))+(a1/100))-((a1/100)/4))-((((a1/100)-(((a1/100)+8)/25))+1)/3))+15)%30))-((a1%100)%4))%7))-(7*((((a1%19)+(11*((((((19*(a1%19))+(a1/100))-((a1/100)/4))-((((a1/100)-(((a1/100)+8)/25))+1)/3))+15)%30)))+(22*(((((32+(2*((a1/100)%4)))+(2*((a1%100)/4)))-((((((19*(a1%19))+(a1/100))-((a1/100)/4))-((((a1/100)-(((a1/100)+8)/25))+1)/3))+15)%30))-((a1%100)%4))%7)))/451)))+114)%31)+1):=aT (by have q1:=cW a1;have q2:=dn a1;simp only[←cy,←cx];omega)
   have HE:=K1 h1
   exact(hX.to HE.symm).e [f_ (df h1),q_ h2,q_ (show(0:Int)<19 from by decide),q_ h2,q_ (show(0:Int)<100 from by decide),q_ h3,q_ h2,q_ (show(0:Int)<100 from by decide),t_ rt,q_ (show(0:Int)≤0∧0<((3:Nat):Int)from by decide),q_ h4,q_ h5,q_ h6,q_ (show(0:Int)<4 from by decide),q_ h7,q_ h8,q_ h9,q_ h10,q_ (show(0:Int)<25 from by decide),q_ h11,q_ h12,q_ h13,q_ h14,q_ (show(0:Int)<3 from by decide),q_ h15,q_ h16,q_ h17,q_ h18,q_ (show(0:Int)<30 from by decide),q_ (show Ir 1 from by decide),i_,t_ rt,q_ (show(0:Int)≤1∧1<((3:Nat):Int)from by decide),q_ h6,q_ (show(0:Int)<4 from by decide),q_ h19,q_ h20,q_ h21,q_ (show(0:Int)<4 from by decide),q_ h22,q_ h23,q_ h24,q_ h25,q_ h21,q_ (show(0:Int)<4 from by decide),q_ h26,q_ h27,q_ (show(0:Int)<7 from by decide),q_ (show Ir 2 from by decide),i_,t_ rt,q_ (show(0:Int)≤2∧2<((3:Nat):Int)from by decide),q_ h28,q_ h29,q_ h30,q_ h31,q_ h32,q_ (show(0:Int)<451 from by decide),q_ h33,q_ (show Ir 3 from by decide),i_,f_ rf,q_ h34,q_ h35,q_ h36,q_ h37,q_ h38,q_ (show(0:Int)<31 from by decide),q_ h39,q_ h38,q_ (show(0:Int)<31 from by decide),q_ h40,c_ [] (fE a1 ((((((((((19*(a1%19))+(a1/100))-((a1/100)/4))-((((a1/100)-(((a1/100)+8)/25))+1)/3))+15)%30)+(((((32+(2*((a1/100)%4)))+(2*((a1%100)/4)))-((((((19*(a1%19))+(a1/100))-((a1/100)/4))-((((a1/100)-(((a1/100)+8)/25))+1)/3))+15)%30))-((a1%100)%4))%7))-(7*((((a1%19)+(11*((((((19*(a1%19))+(a1/100))-((a1/100)/4))-((((a1/100)-(((a1/100)+8)/25))+1)/3))+15)%30)))+(22*(((((32+(2*((a1/100)%4)))+(2*((a1%100)/4)))-((((((19*(a1%19))+(a1/100))-((a1/100)/4))-((((a1/100)-(((a1/100)+8)/25))+1)/3))+15)%30))-((a1%100)%4))%7)))/451)))+114)/31) (((((((((((19*(a1%19))+(a1/100))-((a1/100)/4))-((((a1/100)-(((a1/100)+8)/25))+1)/3))+15)%30)+(((((32+(2*((a1/100)%4)))+(2*((a1%100)/4)))-((((((19*(a1%19))+(a1/100))-((a1/100)/4))-((((a1/100)-(((a1/100)+8)/25))+1)/3))+15)%30))-((a1%100)%4))%7))-(7*((((a1%19)+(11*((((((19*(a1%19))+(a1/100))-((a1/100)/4))-((((a1/100)-(((a1/100)+8)/25))+1)/3))+15)%30)))+(22*(((((32+(2*((a1/100)%4)))+(2*((a1%100)/4)))-((((((19*(a1%19))+(a1/100))-((a1/100)/4))-((((a1/100)-(((a1/100)+8)/25))+1)/3))+15)%30))-((a1%100)%4))%7)))/451)))+114)%31)+1))]
theorem Ks (y:Int):S 265 [I y] [] (.af [I (uN y),I (BJ y)]) []:=by
 refine wU ⟨fun c=> ?_,fun c=>⟨fun d=> ?_,fun d=> ?_⟩⟩
 ·grind [BJ,uN]
 ·grind [BJ,uN]
 ·unfold uN BJ;rw[if_neg (by omega),if_neg (by omega)]
  have h:=(Ey (y:=y) (by omega) (by omega)).1
  have e:jF y (vZ y/31) ((vZ y%31)+1)=0:=by unfold jF;rw[if_pos h]
  show(SV.af [I (yH y),I (jF y (vZ y/31) ((vZ y%31)+1))])=_
  rw[e]
theorem kO {a1 a2:Int} {res:SV} (H:a2≠0∧Ir ((Int.tmod a1 a2)+a2)∧(I (Int.tmod ((Int.tmod a1 a2)+a2) a2):SV)=res):
  S 249 [I a1,I a2] [] (res) []:=by
 refine ab.st fun X hX=> ?_
 obtain⟨h0,h1,HE⟩:=H
 exact(hX.to HE.symm).e [q_ h0,q_ h1,q_ h0,h_ [.t, .t, .t]]
theorem J2 {a b:Int} (h1: -1000000≤a) (h2:a≤1000000) (h3:(0:Int)<b) (h4:b≤1000000):S 249 [I a,I b] [] (I (a%b)) []:=by
 have g1:=Int.emod_nonneg a (show b≠0 by omega)
 have g2:=Int.emod_lt_of_pos a h3
 have g3: -b<a.tmod b∧a.tmod b<b:=by
  have u:=Int.tmod_lt_of_pos a h3
  have v:=Int.lt_tmod_of_pos a h3
  omega
 have g4:(a.tmod b+b).tmod b=a%b:=by
  rw[Int.tmod_eq_emod_of_nonneg (by omega),Int.tmod_def,Int.add_emod_right,Int.sub_eq_add_neg,←Int.mul_neg,Int.add_mul_emod_self_left]
 refine kO ⟨by omega,aT (by omega), ?_⟩
 rw[g4]
noncomputable def ay (x1:Int):SC:=
 ⟨[⟨233,bJ 78 [(12,I x1)],[.code (aa Tryz.f233 [1,1,1,1,1,1,1,1,1,1,1,1,1,0,0,0]), .inLoop (aa Tryz.f233 [1,1,1,1,1,1,1,1,1,1,1,1,1,0,0,0]), .inBlock 0, .code (aa Tryz.f233 [1,1,1,1,1,1,1,1,1,1,1,1,1,1])],{}⟩],[]⟩
theorem dp {X:Cx} {a1:Int} {res:SV} (hX:Fi X 233 [] (res) []) (H:(a1<1→((.af [I 0,I 3]):SV)=res)∧(¬a1<1→(a1>9999→((.af [I 0,I 3]):SV)=res)∧(¬a1>9999→(((((((11*((a1%19)+1))+20)+((((8*((a1/100)+1))+5)/25)-5))-(((3*((a1/100)+1))/4)-12))%30))=25→(((a1%19)+1)>11→((44-(((((((11*((a1%19)+1))+20)+((((8*((a1/100)+1))+5)/25)-5))-(((3*((a1/100)+1))/4)-12))%30))+1))<21→Ok X (ay ((((bV a1 3 1)+((44-(((((((11*((a1%19)+1))+20)+((((8*((a1/100)+1))+5)/25)-5))-(((3*((a1/100)+1))/4)-12))%30))+1))+30))-1)+1)))∧(¬(44-(((((((11*((a1%19)+1))+20)+((((8*((a1/100)+1))+5)/25)-5))-(((3*((a1/100)+1))/4)-12))%30))+1))<21→Ok X (ay ((((bV a1 3 1)+(44-(((((((11*((a1%19)+1))+20)+((((8*((a1/100)+1))+5)/25)-5))-(((3*((a1/100)+1))/4)-12))%30))+1)))-1)+1))))∧(¬((a1%19)+1)>11→(((((((11*((a1%19)+1))+20)+((((8*((a1/100)+1))+5)/25)-5))-(((3*((a1/100)+1))/4)-12))%30))=24→((44-(((((((11*((a1%19)+1))+20)+((((8*((a1/100)+1))+5)/25)-5))-(((3*((a1/100)+1))/4)-12))%30))+1))<21→Ok X (ay ((((bV a1 3 1)+((44-(((((((11*((a1%19)+1))+20)+((((8*((a1/100)+1))+5)/25)-5))-(((3*((a1/100)+1))/4)-12))%30))+1))+30))-1)+1)))∧(¬(44-(((((((11*((a1%19)+1))+20)+((((8*((a1/100)+1))+5)/25)-5))-(((3*((a1/100)+1))/4)-12))%30))+1))<21→Ok X (ay ((((bV a1 3 1)+(44-(((((((11*((a1%19)+1))+20)+((((8*((a1/100)+1))+5)/25)-5))-(((3*((a1/100)+1))/4)-12))%30))+1)))-1)+1))))∧(((((((11*((a1%19)+1))+20)+((((8*((a1/100)+1))+5)/25)-5))-(((3*((a1/100)+1))/4)-12))%30))≠24→((44-((((((11*((a1%19)+1))+20)+((((8*((a1/100)+1))+5)/25)-5))-(((3*((a1/100)+1))/4)-12))%30)))<21→Ok X (ay ((((bV a1 3 1)+((44-((((((11*((a1%19)+1))+20)+((((8*((a1/100)+1))+5)/25)-5))-(((3*((a1/100)+1))/4)-12))%30)))+30))-1)+1)))∧(¬(44-((((((11*((a1%19)+1))+20)+((((8*((a1/100)+1))+5)/25)-5))-(((3*((a1/100)+1))/4)-12))%30)))<21→Ok X (ay ((((bV a1 3 1)+(44-((((((11*((a1%19)+1))+20)+((((8*((a1/100)+1))+5)/25)-5))-(((3*((a1/100)+1))/4)-12))%30))))-1)+1))))))∧(((((((11*((a1%19)+1))+20)+((((8*((a1/100)+1))+5)/25)-5))-(((3*((a1/100)+1))/4)-12))%30))≠25→(((((((11*((a1%19)+1))+20)+((((8*((a1/100)+1))+5)/25)-5))-(((3*((a1/100)+1))/4)-12))%30))=24→((44-(((((((11*((a1%19)+1))+20)+((((8*((a1/100)+1))+5)/25)-5))-(((3*((a1/100)+1))/4)-12))%30))+1))<21→Ok X (ay ((((bV a1 3 1)+((44-(((((((11*((a1%19)+1))+20)+((((8*((a1/100)+1))+5)/25)-5))-(((3*((a1/100)+1))/4)-12))%30))+1))+30))-1)+1)))∧(¬(44-(((((((11*((a1%19)+1))+20)+((((8*((a1/100)+1))+5)/25)-5))-(((3*((a1/100)+1))/4)-12))%30))+1))<21→Ok X (ay ((((bV a1 3 1)+(44-(((((((11*((a1%19)+1))+20)+((((8*((a1/100)+1))+5)/25)-5))-(((3*((a1/100)+1))/4)-12))%30))+1)))-1)+1))))∧(((((((11*((a1%19)+1))+20)+((((8*((a1/100)+1))+5)/25)-5))-(((3*((a1/100)+1))/4)-12))%30))≠24→((44-((((((11*((a1%19)+1))+20)+((((8*((a1/100)+1))+5)/25)-5))-(((3*((a1/100)+1))/4)-12))%30)))<21→Ok X (ay ((((bV a1 3 1)+((44-((((((11*((a1%19)+1))+20)+((((8*((a1/100)+1))+5)/25)-5))-(((3*((a1/100)+1))/4)-12))%30)))+30))-1)+1)))∧(¬(44-((((((11*((a1%19)+1))+20)+((((8*((a1/100)+1))+5)/25)-5))-(((3*((a1/100)+1))/4)-12))%30)))<21→Ok X (ay ((((bV a1 3 1)+(44-((((((11*((a1%19)+1))+20)+((((8*((a1/100)+1))+5)/25)-5))-(((3*((a1/100)+1))/4)-12))%30))))-1)+1)))))))):
  Ok X (entry Tryz.prog 233 [I a1] []):=by
 obtain⟨L0,K0⟩:=H
 by_cases h0:a1<1
 ·have HE:=L0 h0
  exact(hX.to HE.symm).e [n_ 3 (t_ (dt h0)),t_ rt]
 ·obtain⟨L1,K1⟩:=K0 h0
  refine hX.go [n_ 3 (f_ (df h0))] ?_
  by_cases h1:a1>9999
  ·have HE:=L1 h1
   exact(hX.to HE.symm).e [t_ (dt h1)]
  ·have h2:(0:Int)≤a1:=by omega
   have h3:Ir ((a1%19)+1):=aT (by omega)
   have h4:Ir (a1/100):=aT (by omega)
   have h5:Ir ((a1/100)+1):=aT (by omega)
   have h6:Ir (3*((a1/100)+1)):=aT (by omega)
   have h7:(0:Int)≤(3*((a1/100)+1)):=by omega
   have h8:Ir ((3*((a1/100)+1))/4):=aT (by omega)
   have h9:Ir (((3*((a1/100)+1))/4)-12):=aT (by omega)
   have h10:Ir (8*((a1/100)+1)):=aT (by omega)
   have h11:Ir ((8*((a1/100)+1))+5):=aT (by omega)
   have h12:(0:Int)≤((8*((a1/100)+1))+5):=by omega
   have h13:Ir (((8*((a1/100)+1))+5)/25):=aT (by omega)
   have h14:Ir ((((8*((a1/100)+1))+5)/25)-5):=aT (by omega)
   have h15:Ir (11*((a1%19)+1)):=aT (by omega)
   have h16:Ir ((11*((a1%19)+1))+20):=aT (by omega)
   have h17:Ir (((11*((a1%19)+1))+20)+((((8*((a1/100)+1))+5)/25)-5)):=aT (by omega)
   have h18:Ir ((((11*((a1%19)+1))+20)+((((8*((a1/100)+1))+5)/25)-5))-(((3*((a1/100)+1))/4)-12)):=aT (by omega)
   have h19: -1000000≤((((11*((a1%19)+1))+20)+((((8*((a1/100)+1))+5)/25)-5))-(((3*((a1/100)+1))/4)-12)):=by omega
   have h20:((((11*((a1%19)+1))+20)+((((8*((a1/100)+1))+5)/25)-5))-(((3*((a1/100)+1))/4)-12))≤1000000:=by omega
   obtain⟨L21,K21⟩:=K1 h1
   refine hX.go [f_ (df h1),q_ h2,q_ (show(0:Int)<19 from by decide),q_ h3,q_ h2,q_ (show(0:Int)<100 from by decide),q_ h4,q_ h5,q_ h6,q_ h7,q_ (show(0:Int)<4 from by decide),q_ h8,q_ h9,q_ h10,q_ h11,q_ h12,q_ (show(0:Int)<25 from by decide),q_ h13,q_ h14,q_ h15,q_ h16,q_ h17,q_ h18,c_ [] (show S 249 [I ((((11*((a1%19)+1))+20)+((((8*((a1/100)+1))+5)/25)-5))-(((3*((a1/100)+1))/4)-12)),I 30] [] (I ((((((11*((a1%19)+1))+20)+((((8*((a1/100)+1))+5)/25)-5))-(((3*((a1/100)+1))/4)-12))%30))) []from J2 h19 h20 (by decide) (by decide))] ?_
   by_cases h21:((((((11*((a1%19)+1))+20)+((((8*((a1/100)+1))+5)/25)-5))-(((3*((a1/100)+1))/4)-12))%30))=25
   ·obtain⟨L22,K22⟩:=L21 h21
    refine hX.go [n_ 3 (t_ (beq_iff_eq.2 h21))] ?_
    by_cases h22:((a1%19)+1)>11
    ·have h23:Ir (((((((11*((a1%19)+1))+20)+((((8*((a1/100)+1))+5)/25)-5))-(((3*((a1/100)+1))/4)-12))%30))+1):=aT (by omega)
     have h24:Ir (44-(((((((11*((a1%19)+1))+20)+((((8*((a1/100)+1))+5)/25)-5))-(((3*((a1/100)+1))/4)-12))%30))+1)):=aT (by omega)
     obtain⟨L25,K25⟩:=L22 h22
     refine hX.go [n_ 3 (t_ (dt h22)),t_ rt,q_ h23,q_ h24] ?_
     by_cases h25:(44-(((((((11*((a1%19)+1))+20)+((((8*((a1/100)+1))+5)/25)-5))-(((3*((a1/100)+1))/4)-12))%30))+1))<21
     ·have h26:Ir ((44-(((((((11*((a1%19)+1))+20)+((((8*((a1/100)+1))+5)/25)-5))-(((3*((a1/100)+1))/4)-12))%30))+1))+30):=aT (by omega)
      have h27:Ir ((bV a1 3 1)+((44-(((((((11*((a1%19)+1))+20)+((((8*((a1/100)+1))+5)/25)-5))-(((3*((a1/100)+1))/4)-12))%30))+1))+30)):=aT (by have:=cV a1 3 1;omega)
      have h28:Ir (((bV a1 3 1)+((44-(((((((11*((a1%19)+1))+20)+((((8*((a1/100)+1))+5)/25)-5))-(((3*((a1/100)+1))/4)-12))%30))+1))+30))-1):=aT (by have:=cV a1 3 1;omega)
      have h29:Ir ((((bV a1 3 1)+((44-(((((((11*((a1%19)+1))+20)+((((8*((a1/100)+1))+5)/25)-5))-(((3*((a1/100)+1))/4)-12))%30))+1))+30))-1)+1):=aT (by have:=cV a1 3 1;omega)
      have k:=L25 h25
      exact hX.h 34 [t_ (dt h25),q_ h26,c_ [] (dY a1 3 1),q_ h27,q_ h28,q_ h29] (aA 0) k
     omega
    ·obtain⟨L23,K23⟩:=K22 h22
     refine hX.go [n_ 3 (f_ (df h22))] ?_
     by_cases h23:((((((11*((a1%19)+1))+20)+((((8*((a1/100)+1))+5)/25)-5))-(((3*((a1/100)+1))/4)-12))%30))=24
     ·omega
     ·have h24:Ir (44-((((((11*((a1%19)+1))+20)+((((8*((a1/100)+1))+5)/25)-5))-(((3*((a1/100)+1))/4)-12))%30))):=aT (by omega)
      obtain⟨L25,K25⟩:=K23 h23
      refine hX.go [f_ (beq_eq_false_iff_ne.2 h23),q_ h24] ?_
      by_cases h25:(44-((((((11*((a1%19)+1))+20)+((((8*((a1/100)+1))+5)/25)-5))-(((3*((a1/100)+1))/4)-12))%30)))<21
      ·have h26:Ir ((44-((((((11*((a1%19)+1))+20)+((((8*((a1/100)+1))+5)/25)-5))-(((3*((a1/100)+1))/4)-12))%30)))+30):=aT (by omega)
       have h27:Ir ((bV a1 3 1)+((44-((((((11*((a1%19)+1))+20)+((((8*((a1/100)+1))+5)/25)-5))-(((3*((a1/100)+1))/4)-12))%30)))+30)):=aT (by have:=cV a1 3 1;omega)
       have h28:Ir (((bV a1 3 1)+((44-((((((11*((a1%19)+1))+20)+((((8*((a1/100)+1))+5)/25)-5))-(((3*((a1/100)+1))/4)-12))%30)))+30))-1):=aT (by have:=cV a1 3 1;omega)
       have h29:Ir ((((bV a1 3 1)+((44-((((((11*((a1%19)+1))+20)+((((8*((a1/100)+1))+5)/25)-5))-(((3*((a1/100)+1))/4)-12))%30)))+30))-1)+1):=aT (by have:=cV a1 3 1;omega)
       have k:=L25 h25
       exact hX.h 34 [t_ (dt h25),q_ h26,c_ [] (dY a1 3 1),q_ h27,q_ h28,q_ h29] (aA 0) k
      omega
   ·obtain⟨L22,K22⟩:=K21 h21
    refine hX.go [n_ 3 (f_ (beq_eq_false_iff_ne.2 h21)),n_ 3 (f_ rf)] ?_
    by_cases h22:((((((11*((a1%19)+1))+20)+((((8*((a1/100)+1))+5)/25)-5))-(((3*((a1/100)+1))/4)-12))%30))=24
    ·have h23:Ir (((((((11*((a1%19)+1))+20)+((((8*((a1/100)+1))+5)/25)-5))-(((3*((a1/100)+1))/4)-12))%30))+1):=aT (by omega)
     have h24:Ir (44-(((((((11*((a1%19)+1))+20)+((((8*((a1/100)+1))+5)/25)-5))-(((3*((a1/100)+1))/4)-12))%30))+1)):=aT (by omega)
     obtain⟨L25,K25⟩:=L22 h22
     refine hX.go [t_ (beq_iff_eq.2 h22),q_ h23,q_ h24] ?_
     by_cases h25:(44-(((((((11*((a1%19)+1))+20)+((((8*((a1/100)+1))+5)/25)-5))-(((3*((a1/100)+1))/4)-12))%30))+1))<21
     ·have h26:Ir ((44-(((((((11*((a1%19)+1))+20)+((((8*((a1/100)+1))+5)/25)-5))-(((3*((a1/100)+1))/4)-12))%30))+1))+30):=aT (by omega)
      have h27:Ir ((bV a1 3 1)+((44-(((((((11*((a1%19)+1))+20)+((((8*((a1/100)+1))+5)/25)-5))-(((3*((a1/100)+1))/4)-12))%30))+1))+30)):=aT (by have:=cV a1 3 1;omega)
      have h28:Ir (((bV a1 3 1)+((44-(((((((11*((a1%19)+1))+20)+((((8*((a1/100)+1))+5)/25)-5))-(((3*((a1/100)+1))/4)-12))%30))+1))+30))-1):=aT (by have:=cV a1 3 1;omega)
      have h29:Ir ((((bV a1 3 1)+((44-(((((((11*((a1%19)+1))+20)+((((8*((a1/100)+1))+5)/25)-5))-(((3*((a1/100)+1))/4)-12))%30))+1))+30))-1)+1):=aT (by have:=cV a1 3 1;omega)
      have k:=L25 h25
      exact hX.h 34 [t_ (dt h25),q_ h26,c_ [] (dY a1 3 1),q_ h27,q_ h28,q_ h29] (aA 0) k
     omega
    ·have h23:Ir (44-((((((11*((a1%19)+1))+20)+((((8*((a1/100)+1))+5)/25)-5))-(((3*((a1/100)+1))/4)-12))%30))):=aT (by omega)
     obtain⟨L24,K24⟩:=K22 h22
     refine hX.go [f_ (beq_eq_false_iff_ne.2 h22),q_ h23] ?_
     by_cases h24:(44-((((((11*((a1%19)+1))+20)+((((8*((a1/100)+1))+5)/25)-5))-(((3*((a1/100)+1))/4)-12))%30)))<21
     ·have h25:Ir ((44-((((((11*((a1%19)+1))+20)+((((8*((a1/100)+1))+5)/25)-5))-(((3*((a1/100)+1))/4)-12))%30)))+30):=aT (by omega)
      have h26:Ir ((bV a1 3 1)+((44-((((((11*((a1%19)+1))+20)+((((8*((a1/100)+1))+5)/25)-5))-(((3*((a1/100)+1))/4)-12))%30)))+30)):=aT (by have:=cV a1 3 1;omega)
      have h27:Ir (((bV a1 3 1)+((44-((((((11*((a1%19)+1))+20)+((((8*((a1/100)+1))+5)/25)-5))-(((3*((a1/100)+1))/4)-12))%30)))+30))-1):=aT (by have:=cV a1 3 1;omega)
      have h28:Ir ((((bV a1 3 1)+((44-((((((11*((a1%19)+1))+20)+((((8*((a1/100)+1))+5)/25)-5))-(((3*((a1/100)+1))/4)-12))%30)))+30))-1)+1):=aT (by have:=cV a1 3 1;omega)
      have k:=L24 h24
      exact hX.h 34 [t_ (dt h24),q_ h25,c_ [] (dY a1 3 1),q_ h26,q_ h27,q_ h28] (aA 0) k
     ·have h25:Ir ((bV a1 3 1)+(44-((((((11*((a1%19)+1))+20)+((((8*((a1/100)+1))+5)/25)-5))-(((3*((a1/100)+1))/4)-12))%30)))):=aT (by have:=cV a1 3 1;omega)
      have h26:Ir (((bV a1 3 1)+(44-((((((11*((a1%19)+1))+20)+((((8*((a1/100)+1))+5)/25)-5))-(((3*((a1/100)+1))/4)-12))%30))))-1):=aT (by have:=cV a1 3 1;omega)
      have h27:Ir ((((bV a1 3 1)+(44-((((((11*((a1%19)+1))+20)+((((8*((a1/100)+1))+5)/25)-5))-(((3*((a1/100)+1))/4)-12))%30))))-1)+1):=aT (by have:=cV a1 3 1;omega)
      have k:=K24 h24
      exact hX.h 30 [f_ (df h24),c_ [] (dY a1 3 1),q_ h25,q_ h26,q_ h27] (aA 0) k
theorem eW {X:Cx} {x1:Int} {res:SV} (hX:Fi X 233 [] (res) []) (hx:(0:Int)≤x1∧x1≤5000000) (H:((bI x1)≠6→Ok X (ay (x1+1)))∧((bI x1)=6→((.af [I x1,I 0]):SV)=res)):
  Ok X (ay x1):=by
 have h0:(0:Int)≤x1:=by omega
 obtain⟨L1,K1⟩:=H
 refine hX.go [c_ [] (show S 128 [I x1] [] (I (bI x1)) []from A9 h0)] ?_
 by_cases h1:(bI x1)=6
 ·have HE:=K1 h1
  exact(hX.to HE.symm).e [f_ (bne_eq_false_iff_eq.2 h1)]
 ·have h2:Ir (x1+1):=aT (by omega)
  have k:=L1 h1
  exact hX.h 10 [t_ (bne_iff_ne.2 h1),q_ h2] (aA 0) k
theorem BI {X:Cx} {res:SV} (hX:Fi X 233 [] res []): ∀ (f:Nat) (d:Int),6-bI d=(f:Int)→0≤d→d+f≤4000000→ .af [I (d+(6-bI d)),I 0]=res→Ok X (ay d)
 |0,d,hf,h0,h1,hr=>by
  grind [eW,bI]
 |f+1,d,hf,h0,h1,hr=>by
  have e:bI (d+1)=bI d+1:=by unfold bI at hf⊢;omega
  refine eW hX ⟨h0,by omega⟩ ⟨fun c=>BI hX f (d+1) (by omega) (by omega) (by omega) ?_,fun c=>absurd hf (by omega)⟩
  grind
theorem ID (y:Int):S 233 [I y] [] (.af [I (uN y),I (BJ y)]) []:=by
 refine ab.st fun X hX=> ?_
 by_cases c1:y<1
 ·grind [dp,BJ,uN]
 by_cases c2:y>9999
 ·grind [dp,BJ,uN]
 have hd:=cV y 3 1
 obtain⟨-,ok,n1,n2⟩:=Ey (y:=y) (by omega) (by omega)
 have key:Ok X (ay (zr y)):=by
  have w:=qF (zr y)
  have rb:0≤zr y∧zr y≤3700000:=by unfold zr;omega
  refine BI hX (6-bI (zr y)).toNat (zr y) (by omega) rb.1 (by omega) ?_
  grind [BJ,uN]
 have r1: ∀ z,Fo y=z→44-z<21→bV y 3 1+(44-z+30)-1+1=zr y:=fun z hz c=>by unfold zr Ip;rw[hz,if_pos c]
 have r2: ∀ z,Fo y=z→ ¬44-z<21→bV y 3 1+(44-z)-1+1=zr y:=fun z hz c=>by unfold zr Ip;rw[hz,if_neg c]
 have f1:xR y=25∧(y%19)+1>11∨xR y=24→Fo y=xR y+1:=fun c=>by unfold Fo;rw[if_pos c]
 have f2: ¬(xR y=25∧(y%19)+1>11∨xR y=24)→Fo y=xR y:=fun c=>by unfold Fo;rw[if_neg c]
 grind [ay,dp,xR]
end Go.Proofs.YtelidogcomffkaaGreatDoor
namespace Go.Proofs.YtelidogcomffkaaGreatDoor
open Go Go.Sx
variable [Env]
structure Rl where
 kind:Int
 aY:Int
 day:Int
 k:Int
 off:Int
 sh:Int
 fr:Int
 to:Int
abbrev zo (r:Rl):List SV:=[I r.kind,I r.aY,I r.day,I r.k,I r.off,I r.sh,I r.fr,I r.to]
def ee (a lo hi:Int):Bool:=decide (a≥lo∧a≤hi)
theorem CR {a lo hi:Int}:ee a lo hi=true↔a≥lo∧a≤hi:=by unfold ee;rw[decide_eq_true_eq]
theorem GD {a lo hi:Int}:ee a lo hi=false↔ ¬(a≥lo∧a≤hi):=by unfold ee;rw[decide_eq_false_iff_not]
def im (n:Int):Int:=if 1≤n∧n≤3652059 then n else 0
def sw (n:Int):Int:=if 1≤n∧n≤3652059 then 0 else 3
def kz (n:Int):Bool:=decide (n≠0)
theorem J7 {n:Int}:kz n=true↔n≠0:=by unfold kz;rw[decide_eq_true_eq]
theorem F5 {n:Int}:kz n=false↔n=0:=by unfold kz;rw[decide_eq_false_iff_not,Decidable.not_not]
def vq (r:Rl):Prop:=0≤r.kind∧r.kind≤3∧0≤r.sh∧r.sh≤2∧1≤r.fr∧r.fr≤r.to∧r.to≤9999∧(r.kind=3→ -100≤r.off∧r.off≤250)∧
 (r.kind≠3→1≤r.aY∧r.aY≤12∧(r.kind=0→1≤r.day∧r.day≤len 2000 r.aY)∧(r.kind≠0→0≤r.day∧r.day≤6∧(r.kind=2∨1≤r.k∧r.k≤5)))
instance (r:Rl):Decidable (vq r):=by unfold vq;infer_instance
def cQ (r:Rl):Bool:=decide (vq r)
theorem Bs {r:Rl}:cQ r=true↔vq r:=by unfold cQ;rw[decide_eq_true_eq]
def wH (r:Rl) (y:Int):Int:=(((r.day-(bI (bV y r.aY 1)))+7)%7)+(7*(r.k-1))
def qp (r:Rl) (y:Int):Int:=(bV y r.aY (len y r.aY))-((((bI (bV y r.aY (len y r.aY)))-r.day)+7)%7)
structure YL (r:Rl) (y:Int):Prop where
 y1:1≤y
 y2:y≤9999
 m1:1≤r.aY
 m2:r.aY≤12
 d1:0≤r.day
 d2:r.day≤6
structure YN (r:Rl) (y:Int):Prop extends YL r y where
 k1:1≤r.k
 k2:r.k≤5
structure YE (r:Rl) (y:Int):Prop where
 y1:1≤y
 y2:y≤9999
 o1: -100≤r.off
 o2:r.off≤250
def aE (r:Rl) (y:Int):Int:=if y<r.fr∨y>r.to then 0 else if r.kind=0 then bV y r.aY r.day else if r.kind=1 then bV y r.aY (wH r y+1)else if r.kind=2 then qp r y else im (yH y+r.off)
def xy (n w sh:Int):Int:=if sh=1∧w=5 then n-1 else if sh=2∧w=5 then n+2 else if sh≠0∧w=6 then n+1 else n
def iS (r:Rl) (y:Int):Int:=if aE r y=0 then 0 else im (xy (aE r y) (bI (aE r y)) r.sh)
def tF (r:Rl) (n:Int):Bool:=ai n&&(decide (iS r (cY n-1)=n)||(decide (iS r (cY n)=n)||decide (iS r (cY n+1)=n)))
theorem DS {y m:Int} (h1:1≤y) (h2:y≤9999) (m1:1≤m) (m2:m≤12) {d:Int}:dL y m d=decide (1≤d∧d≤len y m):=by
 unfold dL;rw[decide_eq_decide];constructor<;>intro h<;>omega
theorem sn {y m:Int} (h1:1≤y) (h2:y≤9999) (m1:1≤m) (m2:m≤12) (d:Int):bV y m d=if 1≤d∧d≤len y m then bV y m 1+d-1 else 0:=by
 have l:=mO (y:=y) m1 m2
 have e1:bV y m 1=mL y m 1:=by unfold bV;rw[DS h1 h2 m1 m2,decide_eq_true (by omega),if_pos rfl]
 rw[e1];unfold bV
 rw[DS h1 h2 m1 m2]
 by_cases c:1≤d∧d≤len y m
 ·rw[decide_eq_true c,if_pos rfl,if_pos c];unfold mL;omega
 grind
theorem DT {y m:Int} (h1:1≤y) (h2:y≤9999) (m1:1≤m) (m2:m≤12) (d:Int):jF y m d=if 1≤d∧d≤len y m then 0 else 3:=by
 unfold jF
 grind [DS]
theorem wI {y m:Int} (h1:1≤y) (h2:y≤9999) (m1:1≤m) (m2:m≤12):1≤bV y m 1∧bV y m 1+len y m≤3652060:=by
 have l:=mO (y:=y) m1 m2
 have a:=wJ (y:=y) (m:=m) (d:=1) (by rw[DS h1 h2 m1 m2];exact decide_eq_true (by omega))
 have b:=cV y m (len y m)
 rw[sn h1 h2 m1 m2,if_pos (by omega)]at b
 have c:=aP.1 a
 have e1:bV y m 1=mL y m 1:=by unfold bV;rw[DS h1 h2 m1 m2,decide_eq_true (by omega),if_pos rfl]
 omega
theorem Ka (y m d:Int):((jF y m d)==0)=kz (bV y m d):=by
 unfold jF kz bV
 cases h:dL y m d
 ·simp
 ·have:=aP.1 (wJ h)
  simp;omega
theorem Mn (n:Int):((sw n)==0)=kz (im n):=by
 unfold sw kz im
 split<;>simp<;>omega
theorem Je (n:Int):0≤im n∧im n≤3652059:=by unfold im;split<;>omega
theorem EA {y:Int} (h1:1≤y) (h2:y≤9999):1≤yH y∧yH y≤3652059:=by
 have h:=(Ey h1 h2).1
 have:=aP.1 (wJ h)
 unfold yH bV;rw[if_pos h];exact this
theorem yv {r:Rl} {y:Int} (h:YL r y):1≤qp r y∧qp r y≤3652059:=by
 have l:=mO (y:=y) h.m1 h.m2
 have p:=wI h.y1 h.y2 h.m1 h.m2
 unfold qp
 rw[sn h.y1 h.y2 h.m1 h.m2 (len y r.aY),if_pos (by omega)]
 omega
theorem A4 {r:Rl} {y:Int} (h:vq r) (hy: ¬(y<r.fr∨y>r.to)) (h0:r.kind≠0) (h3:r.kind≠3):YL r y:=by
 obtain⟨g1,g2,g3,g4,g5,g6,g7,g8,g9⟩:=h
 obtain⟨k1,k2,k3,k4⟩:=g9 h3
 obtain⟨k5,k6,k7⟩:=k4 h0
 exact⟨by omega,by omega,k1,k2,k5,k6⟩
theorem GY {r:Rl} {y:Int} (h:vq r) (hy: ¬(y<r.fr∨y>r.to)) (h1:r.kind=1):YN r y:=by
 have L:=A4 h hy (by omega) (by omega)
 obtain⟨g1,g2,g3,g4,g5,g6,g7,g8,g9⟩:=h
 have:=(g9 (by omega)).2.2.2 (by omega)
 exact⟨L,by omega,by omega⟩
theorem GZ {r:Rl} {y:Int} (h:vq r) (hy: ¬(y<r.fr∨y>r.to)) (h1:r.kind=3):YE r y:=by
 obtain⟨g1,g2,g3,g4,g5,g6,g7,g8,g9⟩:=h
 have:=g8 h1
 exact⟨by omega,by omega,this.1,this.2⟩
theorem AG {r:Rl} {y:Int} (h:vq r):0≤aE r y∧aE r y≤3652059:=by
 unfold aE
 split
 ·omega
 ·rename_i hy
  split
  ·exact cV _ _ _
  ·rename_i k0
   split
   ·exact cV _ _ _
   ·rename_i k1
    split
    ·rename_i k2;have:=yv (A4 (y:=y) h hy k0 (by omega));omega
    ·exact Je _
theorem uQ {a1 a2 a3:Int} {res:SV} (H:(a1≥a2→(B (decide (a1≤a3)):SV)=res)∧(¬a1≥a2→(B false:SV)=res)):
  S 258 [I a1,I a2,I a3] [] (res) []:=by
 refine ab.st fun X hX=> ?_
 obtain⟨L0,K0⟩:=H
 by_cases h0:a1≥a2
 ·have HE:=L0 h0
  exact(hX.to HE.symm).e [n_ 4 (t_ (dt h0))]
 ·have HE:=K0 h0
  exact(hX.to HE.symm).e [n_ 4 (f_ (df h0))]
theorem oH {a1 a2 a3:Int} {res:SV} (H:(a1≥a2→(B (decide (a1≤a3)):SV)=res)∧(¬a1≥a2→(B false:SV)=res)):
  S 73 [I a1,I a2,I a3] [] (res) []:=by
 refine ab.st fun X hX=> ?_
 obtain⟨L0,K0⟩:=H
 by_cases h0:a1≥a2
 ·have HE:=L0 h0
  exact(hX.to HE.symm).e [n_ 4 (t_ (dt h0))]
 ·have HE:=K0 h0
  exact(hX.to HE.symm).e [n_ 4 (f_ (df h0))]
theorem qi (a lo hi:Int):S 258 [I a,I lo,I hi] [] (B (ee a lo hi)) []:=by
 grind [uQ,ee]
theorem Bf (a lo hi:Int):S 73 [I a,I lo,I hi] [] (B (ee a lo hi)) []:=by
 grind [oH,ee]
theorem zk {a1:Int} {res:SV} (H:((ee a1 1 3652059)=false→((.af [I 0,I 3]):SV)=res)∧((ee a1 1 3652059)=true→((.af [I a1,I 0]):SV)=res)):
  S 252 [I a1] [] (res) []:=by
 refine ab.st fun X hX=> ?_
 obtain⟨L0,K0⟩:=H
 refine hX.go [c_ [] (qi a1 1 3652059)] ?_
 rcases aq (ee a1 1 3652059)with h0|h0
 ·have HE:=K0 h0
  exact(hX.to HE.symm).e [f_ (nf h0)]
 ·have HE:=L0 h0
  exact(hX.to HE.symm).e [t_ (nt h0)]
theorem o9 (n:Int):S 252 [I n] [] (.af [I (im n),I (sw n)]) []:=by
 refine zk ⟨fun c=> ?_,fun c=> ?_⟩
 ·have:=GD.1 c;unfold im sw;rw[if_neg (by omega),if_neg (by omega)]
 ·have:=CR.1 c;unfold im sw;rw[if_pos (by omega),if_pos (by omega)]
theorem qL {r:Rl} {k0 a1:Int} {res:SV} (H:((.af [I (bV a1 r.aY r.day),I (jF a1 r.aY r.day)]):SV)=res):
  S 259 [.agg [I k0,I r.aY,I r.day,I r.k,I r.off,I r.sh,I r.fr,I r.to],I a1] [] (res) []:=by
 refine ab.st fun X hX=> ?_
 have HE:=H
 exact(hX.to HE.symm).e [c_ [] (fE a1 r.aY r.day)]
theorem s6 {r:Rl} {k0 a1:Int} {res:SV} (H:((jF a1 r.aY 1)≠0→((.af [I 0,I (jF a1 r.aY 1)]):SV)=res)∧((jF a1 r.aY 1)=0→(0:Int)≤(bV a1 r.aY 1)∧Ir (r.day-(bI (bV a1 r.aY 1)))∧Ir ((r.day-(bI (bV a1 r.aY 1)))+7)∧(0:Int)≤((r.day-(bI (bV a1 r.aY 1)))+7)∧Ir (r.k-1)∧Ir (7*(r.k-1))∧Ir ((((r.day-(bI (bV a1 r.aY 1)))+7)%7)+(7*(r.k-1)))∧Ir (((((r.day-(bI (bV a1 r.aY 1)))+7)%7)+(7*(r.k-1)))+1)∧((.af [I (bV a1 r.aY (((((r.day-(bI (bV a1 r.aY 1)))+7)%7)+(7*(r.k-1)))+1)),I (jF a1 r.aY (((((r.day-(bI (bV a1 r.aY 1)))+7)%7)+(7*(r.k-1)))+1))]):SV)=res)):
  S 260 [.agg [I k0,I r.aY,I r.day,I r.k,I r.off,I r.sh,I r.fr,I r.to],I a1] [] (res) []:=by
 refine ab.st fun X hX=> ?_
 obtain⟨L0,K0⟩:=H
 refine hX.go [c_ [] (fE a1 r.aY 1)] ?_
 by_cases h0:(jF a1 r.aY 1)=0
 ·obtain⟨h1,h2,h3,h4,h5,h6,h7,h8,HE⟩:=K0 h0
  exact(hX.to HE.symm).e [f_ (bne_eq_false_iff_eq.2 h0),d_ 11,c_ [] (show S 208 [I (bV a1 r.aY 1)] [] (I (bI (bV a1 r.aY 1))) []from BO h1),q_ h2,q_ h3,q_ h4,q_ (show(0:Int)<7 from by decide),q_ h5,q_ h6,q_ h7,q_ h8,c_ [] (fE a1 r.aY (((((r.day-(bI (bV a1 r.aY 1)))+7)%7)+(7*(r.k-1)))+1))]
 ·have HE:=L0 h0
  exact(hX.to HE.symm).e [t_ (bne_iff_ne.2 h0)]
theorem rW {r:Rl} {k0 a1:Int} {res:SV} (H:(0:Int)≤a1∧((jF a1 r.aY (len a1 r.aY))≠0→((.af [I 0,I (jF a1 r.aY (len a1 r.aY))]):SV)=res)∧((jF a1 r.aY (len a1 r.aY))=0→(0:Int)≤(bV a1 r.aY (len a1 r.aY))∧Ir ((bI (bV a1 r.aY (len a1 r.aY)))-r.day)∧Ir (((bI (bV a1 r.aY (len a1 r.aY)))-r.day)+7)∧(0:Int)≤(((bI (bV a1 r.aY (len a1 r.aY)))-r.day)+7)∧Ir ((bV a1 r.aY (len a1 r.aY))-((((bI (bV a1 r.aY (len a1 r.aY)))-r.day)+7)%7))∧((.af [I ((bV a1 r.aY (len a1 r.aY))-((((bI (bV a1 r.aY (len a1 r.aY)))-r.day)+7)%7)),I 0]):SV)=res)):
  S 261 [.agg [I k0,I r.aY,I r.day,I r.k,I r.off,I r.sh,I r.fr,I r.to],I a1] [] (res) []:=by
 refine ab.st fun X hX=> ?_
 obtain⟨h0,L1,K1⟩:=H
 refine hX.go [d_ 13,c_ [] (show S 88 [I a1,I r.aY] [] (I (len a1 r.aY)) []from kq h0),c_ [] (fE a1 r.aY (len a1 r.aY))] ?_
 by_cases h1:(jF a1 r.aY (len a1 r.aY))=0
 ·obtain⟨h2,h3,h4,h5,h6,HE⟩:=K1 h1
  exact(hX.to HE.symm).e [f_ (bne_eq_false_iff_eq.2 h1),d_ 8,c_ [] (show S 208 [I (bV a1 r.aY (len a1 r.aY))] [] (I (bI (bV a1 r.aY (len a1 r.aY)))) []from BO h2),q_ h3,q_ h4,q_ h5,q_ (show(0:Int)<7 from by decide),q_ h6]
 ·have HE:=L1 h1
  exact(hX.to HE.symm).e [t_ (bne_iff_ne.2 h1)]
theorem qc {r:Rl} {k0 a1:Int} {res:SV} (H:((BJ a1)≠0→((.af [I 0,I (BJ a1)]):SV)=res)∧((BJ a1)=0→Ir ((uN a1)+r.off)∧((.af [I (im ((uN a1)+r.off)),I (sw ((uN a1)+r.off))]):SV)=res)):
  S 262 [.agg [I k0,I r.aY,I r.day,I r.k,I r.off,I r.sh,I r.fr,I r.to],I a1] [] (res) []:=by
 refine ab.st fun X hX=> ?_
 obtain⟨L0,K0⟩:=H
 refine hX.go [c_ [] (Ks a1)] ?_
 by_cases h0:(BJ a1)=0
 ·obtain⟨h1,HE⟩:=K0 h0
  exact(hX.to HE.symm).e [f_ (bne_eq_false_iff_eq.2 h0),q_ h1,c_ [] (o9 ((uN a1)+r.off))]
 ·have HE:=L0 h0
  exact(hX.to HE.symm).e [t_ (bne_iff_ne.2 h0)]
theorem HM {r:Rl} {k0 y:Int}:S 259 [.agg [I k0,I r.aY,I r.day,I r.k,I r.off,I r.sh,I r.fr,I r.to],I y] [] (.af [I (bV y r.aY r.day),I (jF y r.aY r.day)]) []:=qL rfl
theorem KU {r:Rl} {k0 y:Int} (h:YN r y):S 260 [.agg [I k0,I r.aY,I r.day,I r.k,I r.off,I r.sh,I r.fr,I r.to],I y] [] (.af [I (bV y r.aY (wH r y+1)),I (jF y r.aY (wH r y+1))]) []:=by
 have l:=mO (y:=y) h.m1 h.m2
 have p:=wI h.y1 h.y2 h.m1 h.m2
 have w:=qF (bV y r.aY 1)
 have d1:=h.d1;have d2:=h.d2;have k1:=h.k1;have k2:=h.k2
 exact s6 ⟨fun c=>absurd (show jF y r.aY 1=0 by rw[DT h.y1 h.y2 h.m1 h.m2,if_pos (by omega)]) c,fun _=>⟨by omega,aT (by omega),aT (by omega),by omega,aT (by omega),aT (by omega),aT (by omega),aT (by omega),rfl⟩⟩
theorem JD {r:Rl} {k0 y:Int} (h:YL r y):S 261 [.agg [I k0,I r.aY,I r.day,I r.k,I r.off,I r.sh,I r.fr,I r.to],I y] [] (.af [I (qp r y),I 0]) []:=by
 have l:=mO (y:=y) h.m1 h.m2
 have p:=wI h.y1 h.y2 h.m1 h.m2
 have w:=qF (bV y r.aY (len y r.aY))
 have e:=sn h.y1 h.y2 h.m1 h.m2 (len y r.aY)
 rw[if_pos (by omega)]at e
 have d1:=h.d1;have d2:=h.d2;have y1:=h.y1
 exact rW ⟨by omega,fun c=>absurd (show jF y r.aY (len y r.aY)=0 by rw[DT h.y1 h.y2 h.m1 h.m2,if_pos (by omega)]) c,fun _=>⟨by omega,aT (by omega),aT (by omega),by omega,aT (by omega),rfl⟩⟩
theorem Ez {y:Int} (h1:1≤y) (h2:y≤9999):uN y=yH y∧BJ y=0:=by unfold uN BJ;rw[if_neg (by omega),if_neg (by omega)];exact⟨rfl,rfl⟩
theorem Fv {r:Rl} {k0 y:Int} (h:YE r y):S 262 [.agg [I k0,I r.aY,I r.day,I r.k,I r.off,I r.sh,I r.fr,I r.to],I y] [] (.af [I (im (yH y+r.off)),I (sw (yH y+r.off))]) []:=by
 obtain⟨e1,e2⟩:=Ez h.y1 h.y2
 have n:=EA h.y1 h.y2
 have o1:=h.o1;have o2:=h.o2
 refine qc ⟨fun c=>absurd e2 c,fun _=> ?_⟩
 rw[e1];exact⟨aT (by omega),rfl⟩
theorem DF {r:Rl} {a1:Int} {res:SV} (H:((ee a1 r.fr r.to)=false→((.af [I 0,B false]):SV)=res)∧((ee a1 r.fr r.to)=true→((.af [I (bV a1 r.aY r.day),B ((jF a1 r.aY r.day)==0)]):SV)=res)):
  S 251 [.agg [I 0,I r.aY,I r.day,I r.k,I r.off,I r.sh,I r.fr,I r.to],I a1] [] (res) []:=by
 refine ab.st fun X hX=> ?_
 obtain⟨L0,K0⟩:=H
 refine hX.go [c_ [] (qi a1 r.fr r.to)] ?_
 rcases aq (ee a1 r.fr r.to)with h0|h0
 ·have HE:=K0 h0
  exact(hX.to HE.symm).e [f_ (nf h0),q_ (show ∀ k,k<4→(a_ [[.fn (.func 259) [] []],[.fn (.func 260) [] []],[.fn (.func 261) [] []],[.fn (.func 262) [] []]]) k=[[.fn (.func 259) [] []],[.fn (.func 260) [] []],[.fn (.func 261) [] []],[.fn (.func 262) [] []]].getD k []from by intro k hk;match k,hk with|0,_=>rfl|1,_=>rfl|2,_=>rfl|3,_=>rfl|k+4,hk=>omega),q_ (show(0:Int)≤0∧0<((4:Nat):Int)from by decide),q_ (re 4),q_ (show(0:Int)≤0∧0<((4:Nat):Int)from by decide),h_ [.row (a_ [[.fn (.func 259) [] []],[.fn (.func 260) [] []],[.fn (.func 261) [] []],[.fn (.func 262) [] []]])],d_ 12,c_ [] (show S 259 [.agg [I 0,I r.aY,I r.day,I r.k,I r.off,I r.sh,I r.fr,I r.to],I a1] [] (.af [I (bV a1 r.aY r.day),I (jF a1 r.aY r.day)]) []from HM)]
 ·have HE:=L0 h0
  exact(hX.to HE.symm).e [t_ (nt h0)]
theorem DE {r:Rl} {a1:Int} {res:SV} (H:((ee a1 r.fr r.to)=false→((.af [I 0,B false]):SV)=res)∧((ee a1 r.fr r.to)=true→YN r a1∧((.af [I (bV a1 r.aY (wH r a1+1)),B ((jF a1 r.aY (wH r a1+1))==0)]):SV)=res)):
  S 251 [.agg [I 1,I r.aY,I r.day,I r.k,I r.off,I r.sh,I r.fr,I r.to],I a1] [] (res) []:=by
 refine ab.st fun X hX=> ?_
 obtain⟨L0,K0⟩:=H
 refine hX.go [c_ [] (qi a1 r.fr r.to)] ?_
 rcases aq (ee a1 r.fr r.to)with h0|h0
 ·obtain⟨h1,HE⟩:=K0 h0
  exact(hX.to HE.symm).e [f_ (nf h0),q_ (show ∀ k,k<4→(a_ [[.fn (.func 259) [] []],[.fn (.func 260) [] []],[.fn (.func 261) [] []],[.fn (.func 262) [] []]]) k=[[.fn (.func 259) [] []],[.fn (.func 260) [] []],[.fn (.func 261) [] []],[.fn (.func 262) [] []]].getD k []from by intro k hk;match k,hk with|0,_=>rfl|1,_=>rfl|2,_=>rfl|3,_=>rfl|k+4,hk=>omega),q_ (show(0:Int)≤1∧1<((4:Nat):Int)from by decide),q_ (re 4),q_ (show(0:Int)≤1∧1<((4:Nat):Int)from by decide),h_ [.row (a_ [[.fn (.func 259) [] []],[.fn (.func 260) [] []],[.fn (.func 261) [] []],[.fn (.func 262) [] []]])],d_ 12,c_ [] (show S 260 [.agg [I 1,I r.aY,I r.day,I r.k,I r.off,I r.sh,I r.fr,I r.to],I a1] [] (.af [I (bV a1 r.aY (wH r a1+1)),I (jF a1 r.aY (wH r a1+1))]) []from KU h1)]
 ·have HE:=L0 h0
  exact(hX.to HE.symm).e [t_ (nt h0)]
theorem DD {r:Rl} {a1:Int} {res:SV} (H:((ee a1 r.fr r.to)=false→((.af [I 0,B false]):SV)=res)∧((ee a1 r.fr r.to)=true→YL r a1∧((.af [I (qp r a1),B (0==0)]):SV)=res)):
  S 251 [.agg [I 2,I r.aY,I r.day,I r.k,I r.off,I r.sh,I r.fr,I r.to],I a1] [] (res) []:=by
 refine ab.st fun X hX=> ?_
 obtain⟨L0,K0⟩:=H
 refine hX.go [c_ [] (qi a1 r.fr r.to)] ?_
 rcases aq (ee a1 r.fr r.to)with h0|h0
 ·obtain⟨h1,HE⟩:=K0 h0
  exact(hX.to HE.symm).e [f_ (nf h0),q_ (show ∀ k,k<4→(a_ [[.fn (.func 259) [] []],[.fn (.func 260) [] []],[.fn (.func 261) [] []],[.fn (.func 262) [] []]]) k=[[.fn (.func 259) [] []],[.fn (.func 260) [] []],[.fn (.func 261) [] []],[.fn (.func 262) [] []]].getD k []from by intro k hk;match k,hk with|0,_=>rfl|1,_=>rfl|2,_=>rfl|3,_=>rfl|k+4,hk=>omega),q_ (show(0:Int)≤2∧2<((4:Nat):Int)from by decide),q_ (re 4),q_ (show(0:Int)≤2∧2<((4:Nat):Int)from by decide),h_ [.row (a_ [[.fn (.func 259) [] []],[.fn (.func 260) [] []],[.fn (.func 261) [] []],[.fn (.func 262) [] []]])],d_ 12,c_ [] (show S 261 [.agg [I 2,I r.aY,I r.day,I r.k,I r.off,I r.sh,I r.fr,I r.to],I a1] [] (.af [I (qp r a1),I 0]) []from JD h1)]
 ·have HE:=L0 h0
  exact(hX.to HE.symm).e [t_ (nt h0)]
theorem DC {r:Rl} {a1:Int} {res:SV} (H:((ee a1 r.fr r.to)=false→((.af [I 0,B false]):SV)=res)∧((ee a1 r.fr r.to)=true→YE r a1∧((.af [I (im (yH a1+r.off)),B ((sw (yH a1+r.off))==0)]):SV)=res)):
  S 251 [.agg [I 3,I r.aY,I r.day,I r.k,I r.off,I r.sh,I r.fr,I r.to],I a1] [] (res) []:=by
 refine ab.st fun X hX=> ?_
 obtain⟨L0,K0⟩:=H
 refine hX.go [c_ [] (qi a1 r.fr r.to)] ?_
 rcases aq (ee a1 r.fr r.to)with h0|h0
 ·obtain⟨h1,HE⟩:=K0 h0
  exact(hX.to HE.symm).e [f_ (nf h0),q_ (show ∀ k,k<4→(a_ [[.fn (.func 259) [] []],[.fn (.func 260) [] []],[.fn (.func 261) [] []],[.fn (.func 262) [] []]]) k=[[.fn (.func 259) [] []],[.fn (.func 260) [] []],[.fn (.func 261) [] []],[.fn (.func 262) [] []]].getD k []from by intro k hk;match k,hk with|0,_=>rfl|1,_=>rfl|2,_=>rfl|3,_=>rfl|k+4,hk=>omega),q_ (show(0:Int)≤3∧3<((4:Nat):Int)from by decide),q_ (re 4),q_ (show(0:Int)≤3∧3<((4:Nat):Int)from by decide),h_ [.row (a_ [[.fn (.func 259) [] []],[.fn (.func 260) [] []],[.fn (.func 261) [] []],[.fn (.func 262) [] []]])],d_ 12,c_ [] (show S 262 [.agg [I 3,I r.aY,I r.day,I r.k,I r.off,I r.sh,I r.fr,I r.to],I a1] [] (.af [I (im (yH a1+r.off)),I (sw (yH a1+r.off))]) []from Fv h1)]
 ·have HE:=L0 h0
  exact(hX.to HE.symm).e [t_ (nt h0)]
theorem J5 {r:Rl} {y:Int} (hm:cQ r=true):S 251 [.agg (zo r),I y] [] (.af [I (aE r y),B (kz (aE r y))]) []:=by
 have h:=Bs.1 hm
 have out:ee y r.fr r.to=false→(.af [I 0,B false]:SV)= .af [I (aE r y),B (kz (aE r y))]:=by
  intro c;have:=GD.1 c
  rw[show aE r y=0 by unfold aE;rw[if_pos (by omega)]];rfl
 have fy:ee y r.fr r.to=true→ ¬(y<r.fr∨y>r.to):=by intro c;have:=CR.1 c;omega
 have hk:r.kind=0∨r.kind=1∨r.kind=2∨r.kind=3:=by have:=h.1;have:=h.2.1;omega
 rcases hk with k|k|k|k
 ·rw[show zo r=[I 0,I r.aY,I r.day,I r.k,I r.off,I r.sh,I r.fr,I r.to]by unfold zo;rw[k]]
  grind [aE,Ka,DF]
 ·rw[show zo r=[I 1,I r.aY,I r.day,I r.k,I r.off,I r.sh,I r.fr,I r.to]by unfold zo;rw[k]]
  grind [aE,Ka,wH,DE,GY]
 ·rw[show zo r=[I 2,I r.aY,I r.day,I r.k,I r.off,I r.sh,I r.fr,I r.to]by unfold zo;rw[k]]
  refine DD ⟨out,fun c=>⟨A4 h (fy c) (by omega) (by omega), ?_⟩⟩
  have:=yv (A4 h (fy c) (by omega) (by omega))
  grind [aE,qp,kz]
 ·rw[show zo r=[I 3,I r.aY,I r.day,I r.k,I r.off,I r.sh,I r.fr,I r.to]by unfold zo;rw[k]]
  grind [aE,im,Mn,DC,GZ]
noncomputable def aQ (x1:Int) (x2:Int) (x3:Int) (x4:Int) (x5:Int) (x6:Int) (x7:Int) (x8:Int) (x9:Int) (x10:Int) (x11:Int) (x12:Int) (x13:Int):SC:=
 ⟨[⟨206,bJ 94 [(2, .ptr 0 0),(9,I x1),(10,I x2),(12,I x3),(13,I x4),(14,I x5)],[.code (aa Tryz.f206 [1,1,1,1,1,1,1,0,1,0,0]), .inLoop (aa Tryz.f206 [1,1,1,1,1,1,1,0,1,0,0]), .inBlock 0, .code (aa Tryz.f206 [1,1,1,1,1,1,1,1])],{}⟩],[some (.box true [I x6,I x7,I x8,I x9,I x10,I x11,I x12,I x13])]⟩
theorem jQ {X:Cx} {r:Rl} {a1:Int} {res:SV} (hX:Fi X 206 [] (res) []) (H:(a1<r.fr→((.af [I 0,B false]):SV)=res)∧(¬a1<r.fr→(a1>r.to→((.af [I 0,B false]):SV)=res)∧(¬a1>r.to→(r.kind=3→Ir ((uN a1)+r.off)∧(((uN a1)+r.off)<1→((.af [I 0,B false]):SV)=res)∧(¬((uN a1)+r.off)<1→(((uN a1)+r.off)>3652059→((.af [I 0,B false]):SV)=res)∧(¬((uN a1)+r.off)>3652059→((.af [I ((uN a1)+r.off),B true]):SV)=res)))∧(r.kind≠3→(0:Int)≤a1∧Ok X (aQ (len a1 r.aY) (bV a1 r.aY 1) 0 0 1 r.kind r.aY r.day r.k r.off r.sh r.fr r.to))))):
  Ok X (entry Tryz.prog 206 [.agg [I r.kind,I r.aY,I r.day,I r.k,I r.off,I r.sh,I r.fr,I r.to],I a1] []):=by
 obtain⟨L0,K0⟩:=H
 by_cases h0:a1<r.fr
 ·have HE:=L0 h0
  exact(hX.to HE.symm).e [n_ 5 (t_ (dt h0)),t_ rt]
 ·obtain⟨L1,K1⟩:=K0 h0
  refine hX.go [n_ 5 (f_ (df h0))] ?_
  by_cases h1:a1>r.to
  ·have HE:=L1 h1
   exact(hX.to HE.symm).e [t_ (dt h1)]
  ·obtain⟨L2,K2⟩:=K1 h1
   refine hX.go [f_ (df h1)] ?_
   by_cases h2:r.kind=3
   ·obtain⟨h3,L4,K4⟩:=L2 h2
    refine hX.go [t_ (beq_iff_eq.2 h2),c_ [] (ID a1),q_ h3] ?_
    by_cases h4:((uN a1)+r.off)<1
    ·have HE:=L4 h4
     exact(hX.to HE.symm).e [n_ 3 (t_ (dt h4)),t_ rt]
    ·obtain⟨L5,K5⟩:=K4 h4
     refine hX.go [n_ 3 (f_ (df h4))] ?_
     by_cases h5:((uN a1)+r.off)>3652059
     ·have HE:=L5 h5
      exact(hX.to HE.symm).e [t_ (dt h5)]
     ·have HE:=K5 h5
      exact(hX.to HE.symm).e [f_ (df h5)]
   ·obtain⟨h3,k⟩:=K2 h2
    exact hX.h 38 [f_ (beq_eq_false_iff_ne.2 h2),c_ [] (show S 74 [I a1,I r.aY] [] (I (len a1 r.aY)) []from fU h3),c_ [] (dY a1 r.aY 1)] (aA 1) k
theorem eM {X:Cx} {x1 x2 x3 x4 x5 x6 x7 x8 x9 x10 x11 x12 x13:Int} {res:SV} (hX:Fi X 206 [] (res) []) (H:(x5≤x1→Ir (x2+x5)∧Ir ((x2+x5)-1)∧(x6=0→(x5=x8→Ir (x5+1)∧Ok X (aQ x1 x2 x3 ((x2+x5)-1) (x5+1) x6 x7 x8 x9 x10 x11 x12 x13))∧(x5≠x8→Ir (x5+1)∧Ok X (aQ x1 x2 x3 x4 (x5+1) x6 x7 x8 x9 x10 x11 x12 x13)))∧(x6≠0→(0:Int)≤((x2+x5)-1)∧((bI ((x2+x5)-1))=x8→Ir (x3+1)∧(x6=2→Ir (x5+1)∧Ok X (aQ x1 x2 (x3+1) ((x2+x5)-1) (x5+1) x6 x7 x8 x9 x10 x11 x12 x13))∧(x6≠2→((x3+1)=x9→Ir (x5+1)∧Ok X (aQ x1 x2 (x3+1) ((x2+x5)-1) (x5+1) x6 x7 x8 x9 x10 x11 x12 x13))∧((x3+1)≠x9→Ir (x5+1)∧Ok X (aQ x1 x2 (x3+1) x4 (x5+1) x6 x7 x8 x9 x10 x11 x12 x13))))∧((bI ((x2+x5)-1))≠x8→Ir (x5+1)∧Ok X (aQ x1 x2 x3 x4 (x5+1) x6 x7 x8 x9 x10 x11 x12 x13))))∧(¬x5≤x1→((.af [I x4,B (decide (x4>0))]):SV)=res)):
  Ok X (aQ x1 x2 x3 x4 x5 x6 x7 x8 x9 x10 x11 x12 x13):=by
 obtain⟨L0,K0⟩:=H
 by_cases h0:x5≤x1
 ·obtain⟨h1,h2,L3,K3⟩:=L0 h0
  refine hX.go [t_ (dt h0),q_ h1,q_ h2] ?_
  by_cases h3:x6=0
  ·obtain⟨L4,K4⟩:=L3 h3
   refine hX.go [t_ (beq_iff_eq.2 h3)] ?_
   by_cases h4:x5=x8
   ·obtain⟨h5,k⟩:=L4 h4
    exact hX.h 12 [t_ (beq_iff_eq.2 h4),q_ h5] (aA 1) k
   ·obtain⟨h5,k⟩:=K4 h4
    exact hX.h 9 [f_ (beq_eq_false_iff_ne.2 h4),q_ h5] (aA 1) k
  ·obtain⟨h4,L5,K5⟩:=K3 h3
   refine hX.go [f_ (beq_eq_false_iff_ne.2 h3),d_ 4,c_ [] (show S 128 [I ((x2+x5)-1)] [] (I (bI ((x2+x5)-1))) []from A9 h4)] ?_
   by_cases h5:(bI ((x2+x5)-1))=x8
   ·obtain⟨h6,L7,K7⟩:=L5 h5
    refine hX.go [t_ (beq_iff_eq.2 h5),q_ h6] ?_
    by_cases h7:x6=2
    ·obtain⟨h8,k⟩:=L7 h7
     exact hX.h 18 [n_ 5 (t_ (beq_iff_eq.2 h7)),t_ rt,q_ h8] (aA 1) k
    ·obtain⟨L8,K8⟩:=K7 h7
     refine hX.go [n_ 5 (f_ (beq_eq_false_iff_ne.2 h7))] ?_
     by_cases h8:(x3+1)=x9
     ·obtain⟨h9,k⟩:=L8 h8
      exact hX.h 12 [t_ (beq_iff_eq.2 h8),q_ h9] (aA 1) k
     ·obtain⟨h9,k⟩:=K8 h8
      exact hX.h 9 [f_ (beq_eq_false_iff_ne.2 h8),q_ h9] (aA 1) k
   ·obtain⟨h6,k⟩:=K5 h5
    exact hX.h 9 [f_ (beq_eq_false_iff_ne.2 h5),q_ h6] (aA 1) k
 ·have HE:=K0 h0
  exact(hX.to HE.symm).e [f_ (df h0)]
def CO (dl d:Int):Int:=(d-1+6-dl)/7
theorem Fc {X:Cx} {r:Rl} {y:Int} {res:SV} (hX:Fi X 206 [] res []) (h:vq r) (hy: ¬(y<r.fr∨y>r.to)) (h3:r.kind≠3) (hr: .af [I (aE r y),B (decide (aE r y>0))]=res):
  ∀ (f:Nat) (s g d:Int),d+f=len y r.aY+1→1≤d→
    (r.kind=0→g=if 1≤r.day∧r.day<d then bV y r.aY 1+r.day-1 else 0)→
    (r.kind≠0→s=CO ((r.day-bI (bV y r.aY 1)+7)%7) d)→
    (r.kind=1→g=if r.k≤s then bV y r.aY 1+(r.day-bI (bV y r.aY 1)+7)%7+7*(r.k-1)else 0)→
    (r.kind=2→g=if 1≤s then bV y r.aY 1+(r.day-bI (bV y r.aY 1)+7)%7+7*(s-1)else 0)→
    Ok X (aQ (len y r.aY) (bV y r.aY 1) s g d r.kind r.aY r.day r.k r.off r.sh r.fr r.to):=by
 obtain⟨g1,g2, -, -,g5,g6,g7, -,g9⟩:=id h
 obtain⟨m1,m2,q0,q1⟩:=g9 h3
 have y1:1≤y:=by omega
 have y2:y≤9999:=by omega
 have l:=mO (y:=y) m1 m2
 have l':=(ib y r.aY).1
 have p:=wI y1 y2 m1 m2
 have w:=qF (bV y r.aY 1)
 have hw: ∀ d:Int,bI (bV y r.aY 1+d-1)=(bI (bV y r.aY 1)+(d-1))%7:=by intro d;unfold bI;omega
 intro f
 induction f with
 |zero=>
  intro s g d hd h1 i0 i1 i2 i3
  refine eM hX ⟨fun c=>absurd c (by omega),fun _=> ?_⟩
  grind [aE,qp,sn,wH,CO]
 |succ f ih=>
  intro s g d hd h1 i0 i1 i2 i3
  refine eM hX ⟨fun _=>⟨aT (by omega),aT (by omega),fun k=>⟨fun c=>⟨aT (by omega), ?_⟩,fun c=>⟨aT (by omega), ?_⟩⟩,fun k=>⟨by omega,fun c=>⟨aT ?_,fun k2=>⟨aT (by omega), ?_⟩,fun k2=>⟨fun c2=>⟨aT (by omega), ?_⟩,fun c2=>⟨aT (by omega), ?_⟩⟩⟩,fun c=>⟨aT (by omega), ?_⟩⟩⟩,fun c=>absurd (show d≤len y r.aY by omega) c⟩
  ·grind
  ·grind
  ·grind [CO]
  ·have hq:=q1 k
   have hs:=i1 k
   rw[hw]at c
   unfold CO at hs
   have hs':s+1=CO ((r.day-bI (bV y r.aY 1)+7)%7) (d+1):=by unfold CO;omega
   grind
  ·have hq:=q1 k
   have hs:=i1 k
   rw[hw]at c
   unfold CO at hs
   have hs':s+1=CO ((r.day-bI (bV y r.aY 1)+7)%7) (d+1):=by unfold CO;omega
   grind
  ·grind [CO]
  grind [CO]
theorem FZ {r:Rl} {y:Int} (hm:cQ r=true):S 206 [.agg (zo r),I y] [] (.af [I (aE r y),B (kz (aE r y))]) []:=by
 have h:=Bs.1 hm
 refine ab.st fun X hX=> ?_
 have out:y<r.fr∨y>r.to→(.af [I 0,B false]:SV)= .af [I (aE r y),B (kz (aE r y))]:=by
  intro c;rw[show aE r y=0 by unfold aE;rw[if_pos c]];rfl
 refine jQ hX ⟨fun c=>out (.inl c),fun c=>⟨fun d=>out (.inr d),fun d=>⟨fun k=> ?_,fun k=>⟨by have:=h.2.2.2.2.1;omega, ?_⟩⟩⟩⟩
 ·have E:=GZ (y:=y) h (by omega) k
  obtain⟨e1,e2⟩:=Ez E.y1 E.y2
  have n:=EA E.y1 E.y2
  have o1:=E.o1;have o2:=E.o2
  have e:aE r y=im (yH y+r.off):=by unfold aE;rw[if_neg (by omega),if_neg (by omega),if_neg (by omega),if_neg (by omega)]
  rw[e1,e]
  refine⟨aT (by omega),fun c=> ?_,fun c=>⟨fun c'=> ?_,fun c'=> ?_⟩⟩
  all_goals grind [im,kz]
 ·have hl:=AG (y:=y) h
  have l:=mO (y:=y) (h.2.2.2.2.2.2.2.2 k).1 (h.2.2.2.2.2.2.2.2 k).2.1
  refine Fc hX h (by omega) k (by rw[show kz (aE r y)=decide (aE r y>0)by unfold kz;rw[decide_eq_decide];omega]) (len y r.aY).toNat 0 0 1 (by omega) (by decide) (fun _=> ?_) (fun _=> ?_) (fun z=> ?_) (fun z=> ?_)
  ·rw[if_neg (by omega)]
  ·unfold CO;omega
  ·have:=GY (y:=y) h (by omega) z
   rw[if_neg (by have:=this.k1;omega)]
  ·rw[if_neg (by decide)]
theorem Cd {r:Rl} {a1:Int} {res:SV} (H:cQ r=true∧((kz (aE r a1))=false→((.af [I 0,B false]):SV)=res)∧((kz (aE r a1))=true→(0:Int)≤(aE r a1)∧(r.sh=1→((bI (aE r a1))=5→Ir ((aE r a1)-1)∧((.af [I (im ((aE r a1)-1)),B ((sw ((aE r a1)-1))==0)]):SV)=res)∧((bI (aE r a1))≠5→(r.sh=2→(r.sh≠0→((bI (aE r a1))=6→Ir ((aE r a1)+1)∧((.af [I (im ((aE r a1)+1)),B ((sw ((aE r a1)+1))==0)]):SV)=res)∧((bI (aE r a1))≠6→((.af [I (im (aE r a1)),B ((sw (aE r a1))==0)]):SV)=res))∧(r.sh=0→((.af [I (im (aE r a1)),B ((sw (aE r a1))==0)]):SV)=res))∧(r.sh≠2→(r.sh≠0→((bI (aE r a1))=6→Ir ((aE r a1)+1)∧((.af [I (im ((aE r a1)+1)),B ((sw ((aE r a1)+1))==0)]):SV)=res)∧((bI (aE r a1))≠6→((.af [I (im (aE r a1)),B ((sw (aE r a1))==0)]):SV)=res))∧(r.sh=0→((.af [I (im (aE r a1)),B ((sw (aE r a1))==0)]):SV)=res))))∧(r.sh≠1→(r.sh=2→((bI (aE r a1))=5→Ir ((aE r a1)+1)∧Ir (((aE r a1)+1)+1)∧((.af [I (im (((aE r a1)+1)+1)),B ((sw (((aE r a1)+1)+1))==0)]):SV)=res)∧((bI (aE r a1))≠5→(r.sh≠0→((bI (aE r a1))=6→Ir ((aE r a1)+1)∧((.af [I (im ((aE r a1)+1)),B ((sw ((aE r a1)+1))==0)]):SV)=res)∧((bI (aE r a1))≠6→((.af [I (im (aE r a1)),B ((sw (aE r a1))==0)]):SV)=res))∧(r.sh=0→((.af [I (im (aE r a1)),B ((sw (aE r a1))==0)]):SV)=res)))∧(r.sh≠2→(r.sh≠0→((bI (aE r a1))=6→Ir ((aE r a1)+1)∧((.af [I (im ((aE r a1)+1)),B ((sw ((aE r a1)+1))==0)]):SV)=res)∧((bI (aE r a1))≠6→((.af [I (im (aE r a1)),B ((sw (aE r a1))==0)]):SV)=res))∧(r.sh=0→((.af [I (im (aE r a1)),B ((sw (aE r a1))==0)]):SV)=res))))):
  S 237 [.agg [I r.kind,I r.aY,I r.day,I r.k,I r.off,I r.sh,I r.fr,I r.to],I a1] [] (res) []:=by
 refine ab.st fun X hX=> ?_
 obtain⟨h0,L1,K1⟩:=H
 refine hX.go [c_ [] (show S 251 [.agg [I r.kind,I r.aY,I r.day,I r.k,I r.off,I r.sh,I r.fr,I r.to],I a1] [] (.af [I (aE r a1),B (kz (aE r a1))]) []from J5 h0)] ?_
 rcases aq (kz (aE r a1))with h1|h1
 ·obtain⟨h2,L3,K3⟩:=K1 h1
  refine hX.go [f_ (nf h1),c_ [] (show S 208 [I (aE r a1)] [] (I (bI (aE r a1))) []from BO h2)] ?_
  by_cases h3:r.sh=1
  ·obtain⟨L4,K4⟩:=L3 h3
   refine hX.go [n_ 3 (t_ (beq_iff_eq.2 h3))] ?_
   by_cases h4:(bI (aE r a1))=5
   ·obtain⟨h5,HE⟩:=L4 h4
    exact(hX.to HE.symm).e [t_ (beq_iff_eq.2 h4),q_ h5,c_ [] (o9 ((aE r a1)-1))]
   ·obtain⟨L5,K5⟩:=K4 h4
    refine hX.go [f_ (beq_eq_false_iff_ne.2 h4)] ?_
    by_cases h5:r.sh=2
    ·omega
    ·obtain⟨L6,K6⟩:=K5 h5
     refine hX.go [n_ 3 (f_ (beq_eq_false_iff_ne.2 h5)),f_ rf] ?_
     by_cases h6:r.sh=0
     ·omega
     ·obtain⟨L7,K7⟩:=L6 h6
      refine hX.go [n_ 3 (t_ (bne_iff_ne.2 h6))] ?_
      by_cases h7:(bI (aE r a1))=6
      ·obtain⟨h8,HE⟩:=L7 h7
       exact(hX.to HE.symm).e [t_ (beq_iff_eq.2 h7),q_ h8,c_ [] (o9 ((aE r a1)+1))]
      ·have HE:=K7 h7
       exact(hX.to HE.symm).e [f_ (beq_eq_false_iff_ne.2 h7),c_ [] (o9 (aE r a1))]
  ·obtain⟨L4,K4⟩:=K3 h3
   refine hX.go [n_ 3 (f_ (beq_eq_false_iff_ne.2 h3)),f_ rf] ?_
   by_cases h4:r.sh=2
   ·obtain⟨L5,K5⟩:=L4 h4
    refine hX.go [n_ 3 (t_ (beq_iff_eq.2 h4))] ?_
    by_cases h5:(bI (aE r a1))=5
    ·obtain⟨h6,h7,HE⟩:=L5 h5
     exact(hX.to HE.symm).e [t_ (beq_iff_eq.2 h5),q_ h6,q_ h7,c_ [] (o9 (((aE r a1)+1)+1))]
    ·obtain⟨L6,K6⟩:=K5 h5
     refine hX.go [f_ (beq_eq_false_iff_ne.2 h5)] ?_
     by_cases h6:r.sh=0
     ·omega
     ·obtain⟨L7,K7⟩:=L6 h6
      refine hX.go [n_ 3 (t_ (bne_iff_ne.2 h6))] ?_
      by_cases h7:(bI (aE r a1))=6
      ·obtain⟨h8,HE⟩:=L7 h7
       exact(hX.to HE.symm).e [t_ (beq_iff_eq.2 h7),q_ h8,c_ [] (o9 ((aE r a1)+1))]
      ·have HE:=K7 h7
       exact(hX.to HE.symm).e [f_ (beq_eq_false_iff_ne.2 h7),c_ [] (o9 (aE r a1))]
   ·obtain⟨L5,K5⟩:=K4 h4
    refine hX.go [n_ 3 (f_ (beq_eq_false_iff_ne.2 h4)),f_ rf] ?_
    by_cases h5:r.sh=0
    ·have HE:=K5 h5
     exact(hX.to HE.symm).e [n_ 3 (f_ (bne_eq_false_iff_eq.2 h5)),f_ rf,c_ [] (o9 (aE r a1))]
    ·obtain⟨L6,K6⟩:=L5 h5
     refine hX.go [n_ 3 (t_ (bne_iff_ne.2 h5))] ?_
     by_cases h6:(bI (aE r a1))=6
     ·obtain⟨h7,HE⟩:=L6 h6
      exact(hX.to HE.symm).e [t_ (beq_iff_eq.2 h6),q_ h7,c_ [] (o9 ((aE r a1)+1))]
     ·have HE:=K6 h6
      exact(hX.to HE.symm).e [f_ (beq_eq_false_iff_ne.2 h6),c_ [] (o9 (aE r a1))]
 ·have HE:=L1 h1
  exact(hX.to HE.symm).e [t_ (nt h1)]
theorem oJ {r:Rl} {a1:Int} {res:SV} (H:cQ r=true∧((kz (aE r a1))=false→((.af [I 0,B false]):SV)=res)∧((kz (aE r a1))=true→(0:Int)≤(aE r a1)∧(r.sh=1→((bI (aE r a1))=5→Ir ((aE r a1)-1)∧(r.sh=2→Ir (((aE r a1)-1)+2)∧(r.sh>0→((bI (aE r a1))=6→Ir ((((aE r a1)-1)+2)+1)∧(((((aE r a1)-1)+2)+1)<1→((.af [I 0,B false]):SV)=res)∧(¬((((aE r a1)-1)+2)+1)<1→(((((aE r a1)-1)+2)+1)>3652059→((.af [I 0,B false]):SV)=res)∧(¬((((aE r a1)-1)+2)+1)>3652059→((.af [I ((((aE r a1)-1)+2)+1),B true]):SV)=res)))∧((bI (aE r a1))≠6→((((aE r a1)-1)+2)<1→((.af [I 0,B false]):SV)=res)∧(¬(((aE r a1)-1)+2)<1→((((aE r a1)-1)+2)>3652059→((.af [I 0,B false]):SV)=res)∧(¬(((aE r a1)-1)+2)>3652059→((.af [I (((aE r a1)-1)+2),B true]):SV)=res))))∧(¬r.sh>0→((((aE r a1)-1)+2)<1→((.af [I 0,B false]):SV)=res)∧(¬(((aE r a1)-1)+2)<1→((((aE r a1)-1)+2)>3652059→((.af [I 0,B false]):SV)=res)∧(¬(((aE r a1)-1)+2)>3652059→((.af [I (((aE r a1)-1)+2),B true]):SV)=res))))∧(r.sh≠2→(r.sh>0→((bI (aE r a1))=6→Ir (((aE r a1)-1)+1)∧((((aE r a1)-1)+1)<1→((.af [I 0,B false]):SV)=res)∧(¬(((aE r a1)-1)+1)<1→((((aE r a1)-1)+1)>3652059→((.af [I 0,B false]):SV)=res)∧(¬(((aE r a1)-1)+1)>3652059→((.af [I (((aE r a1)-1)+1),B true]):SV)=res)))∧((bI (aE r a1))≠6→(((aE r a1)-1)<1→((.af [I 0,B false]):SV)=res)∧(¬((aE r a1)-1)<1→(((aE r a1)-1)>3652059→((.af [I 0,B false]):SV)=res)∧(¬((aE r a1)-1)>3652059→((.af [I ((aE r a1)-1),B true]):SV)=res))))∧(¬r.sh>0→(((aE r a1)-1)<1→((.af [I 0,B false]):SV)=res)∧(¬((aE r a1)-1)<1→(((aE r a1)-1)>3652059→((.af [I 0,B false]):SV)=res)∧(¬((aE r a1)-1)>3652059→((.af [I ((aE r a1)-1),B true]):SV)=res)))))∧((bI (aE r a1))≠5→(r.sh=2→(r.sh>0→((bI (aE r a1))=6→Ir ((aE r a1)+1)∧(((aE r a1)+1)<1→((.af [I 0,B false]):SV)=res)∧(¬((aE r a1)+1)<1→(((aE r a1)+1)>3652059→((.af [I 0,B false]):SV)=res)∧(¬((aE r a1)+1)>3652059→((.af [I ((aE r a1)+1),B true]):SV)=res)))∧((bI (aE r a1))≠6→((aE r a1)<1→((.af [I 0,B false]):SV)=res)∧(¬(aE r a1)<1→((aE r a1)>3652059→((.af [I 0,B false]):SV)=res)∧(¬(aE r a1)>3652059→((.af [I (aE r a1),B true]):SV)=res))))∧(¬r.sh>0→((aE r a1)<1→((.af [I 0,B false]):SV)=res)∧(¬(aE r a1)<1→((aE r a1)>3652059→((.af [I 0,B false]):SV)=res)∧(¬(aE r a1)>3652059→((.af [I (aE r a1),B true]):SV)=res))))∧(r.sh≠2→(r.sh>0→((bI (aE r a1))=6→Ir ((aE r a1)+1)∧(((aE r a1)+1)<1→((.af [I 0,B false]):SV)=res)∧(¬((aE r a1)+1)<1→(((aE r a1)+1)>3652059→((.af [I 0,B false]):SV)=res)∧(¬((aE r a1)+1)>3652059→((.af [I ((aE r a1)+1),B true]):SV)=res)))∧((bI (aE r a1))≠6→((aE r a1)<1→((.af [I 0,B false]):SV)=res)∧(¬(aE r a1)<1→((aE r a1)>3652059→((.af [I 0,B false]):SV)=res)∧(¬(aE r a1)>3652059→((.af [I (aE r a1),B true]):SV)=res))))∧(¬r.sh>0→((aE r a1)<1→((.af [I 0,B false]):SV)=res)∧(¬(aE r a1)<1→((aE r a1)>3652059→((.af [I 0,B false]):SV)=res)∧(¬(aE r a1)>3652059→((.af [I (aE r a1),B true]):SV)=res))))))∧(r.sh≠1→(r.sh=2→((bI (aE r a1))=5→Ir ((aE r a1)+2)∧(r.sh>0→((bI (aE r a1))=6→Ir (((aE r a1)+2)+1)∧((((aE r a1)+2)+1)<1→((.af [I 0,B false]):SV)=res)∧(¬(((aE r a1)+2)+1)<1→((((aE r a1)+2)+1)>3652059→((.af [I 0,B false]):SV)=res)∧(¬(((aE r a1)+2)+1)>3652059→((.af [I (((aE r a1)+2)+1),B true]):SV)=res)))∧((bI (aE r a1))≠6→(((aE r a1)+2)<1→((.af [I 0,B false]):SV)=res)∧(¬((aE r a1)+2)<1→(((aE r a1)+2)>3652059→((.af [I 0,B false]):SV)=res)∧(¬((aE r a1)+2)>3652059→((.af [I ((aE r a1)+2),B true]):SV)=res))))∧(¬r.sh>0→(((aE r a1)+2)<1→((.af [I 0,B false]):SV)=res)∧(¬((aE r a1)+2)<1→(((aE r a1)+2)>3652059→((.af [I 0,B false]):SV)=res)∧(¬((aE r a1)+2)>3652059→((.af [I ((aE r a1)+2),B true]):SV)=res))))∧((bI (aE r a1))≠5→(r.sh>0→((bI (aE r a1))=6→Ir ((aE r a1)+1)∧(((aE r a1)+1)<1→((.af [I 0,B false]):SV)=res)∧(¬((aE r a1)+1)<1→(((aE r a1)+1)>3652059→((.af [I 0,B false]):SV)=res)∧(¬((aE r a1)+1)>3652059→((.af [I ((aE r a1)+1),B true]):SV)=res)))∧((bI (aE r a1))≠6→((aE r a1)<1→((.af [I 0,B false]):SV)=res)∧(¬(aE r a1)<1→((aE r a1)>3652059→((.af [I 0,B false]):SV)=res)∧(¬(aE r a1)>3652059→((.af [I (aE r a1),B true]):SV)=res))))∧(¬r.sh>0→((aE r a1)<1→((.af [I 0,B false]):SV)=res)∧(¬(aE r a1)<1→((aE r a1)>3652059→((.af [I 0,B false]):SV)=res)∧(¬(aE r a1)>3652059→((.af [I (aE r a1),B true]):SV)=res)))))∧(r.sh≠2→(r.sh>0→((bI (aE r a1))=6→Ir ((aE r a1)+1)∧(((aE r a1)+1)<1→((.af [I 0,B false]):SV)=res)∧(¬((aE r a1)+1)<1→(((aE r a1)+1)>3652059→((.af [I 0,B false]):SV)=res)∧(¬((aE r a1)+1)>3652059→((.af [I ((aE r a1)+1),B true]):SV)=res)))∧((bI (aE r a1))≠6→((aE r a1)<1→((.af [I 0,B false]):SV)=res)∧(¬(aE r a1)<1→((aE r a1)>3652059→((.af [I 0,B false]):SV)=res)∧(¬(aE r a1)>3652059→((.af [I (aE r a1),B true]):SV)=res))))∧(¬r.sh>0→((aE r a1)<1→((.af [I 0,B false]):SV)=res)∧(¬(aE r a1)<1→((aE r a1)>3652059→((.af [I 0,B false]):SV)=res)∧(¬(aE r a1)>3652059→((.af [I (aE r a1),B true]):SV)=res))))))):
  S 165 [.agg [I r.kind,I r.aY,I r.day,I r.k,I r.off,I r.sh,I r.fr,I r.to],I a1] [] (res) []:=by
 refine ab.st fun X hX=> ?_
 obtain⟨h0,L1,K1⟩:=H
 refine hX.go [c_ [] (show S 206 [.agg [I r.kind,I r.aY,I r.day,I r.k,I r.off,I r.sh,I r.fr,I r.to],I a1] [] (.af [I (aE r a1),B (kz (aE r a1))]) []from FZ h0)] ?_
 rcases aq (kz (aE r a1))with h1|h1
 ·obtain⟨h2,L3,K3⟩:=K1 h1
  refine hX.go [f_ (nf h1),c_ [] (show S 128 [I (aE r a1)] [] (I (bI (aE r a1))) []from A9 h2)] ?_
  by_cases h3:r.sh=1
  ·obtain⟨L4,K4⟩:=L3 h3
   refine hX.go [n_ 3 (t_ (beq_iff_eq.2 h3))] ?_
   by_cases h4:(bI (aE r a1))=5
   ·obtain⟨h5,L6,K6⟩:=L4 h4
    refine hX.go [t_ (beq_iff_eq.2 h4),q_ h5] ?_
    by_cases h6:r.sh=2
    ·omega
    ·obtain⟨L7,K7⟩:=K6 h6
     refine hX.go [n_ 3 (f_ (beq_eq_false_iff_ne.2 h6)),f_ rf] ?_
     by_cases h7:r.sh>0
     ·obtain⟨L8,K8⟩:=L7 h7
      refine hX.go [n_ 3 (t_ (dt h7))] ?_
      by_cases h8:(bI (aE r a1))=6
      ·omega
      ·obtain⟨L9,K9⟩:=K8 h8
       refine hX.go [f_ (beq_eq_false_iff_ne.2 h8)] ?_
       by_cases h9:((aE r a1)-1)<1
       ·have HE:=L9 h9
        exact(hX.to HE.symm).e [n_ 3 (t_ (dt h9)),t_ rt]
       ·obtain⟨L10,K10⟩:=K9 h9
        refine hX.go [n_ 3 (f_ (df h9))] ?_
        by_cases h10:((aE r a1)-1)>3652059
        ·have HE:=L10 h10
         exact(hX.to HE.symm).e [t_ (dt h10)]
        ·have HE:=K10 h10
         exact(hX.to HE.symm).e [f_ (df h10)]
     omega
   ·obtain⟨L5,K5⟩:=K4 h4
    refine hX.go [f_ (beq_eq_false_iff_ne.2 h4)] ?_
    by_cases h5:r.sh=2
    ·omega
    ·obtain⟨L6,K6⟩:=K5 h5
     refine hX.go [n_ 3 (f_ (beq_eq_false_iff_ne.2 h5)),f_ rf] ?_
     by_cases h6:r.sh>0
     ·obtain⟨L7,K7⟩:=L6 h6
      refine hX.go [n_ 3 (t_ (dt h6))] ?_
      by_cases h7:(bI (aE r a1))=6
      ·obtain⟨h8,L9,K9⟩:=L7 h7
       refine hX.go [t_ (beq_iff_eq.2 h7),q_ h8] ?_
       by_cases h9:((aE r a1)+1)<1
       ·omega
       ·obtain⟨L10,K10⟩:=K9 h9
        refine hX.go [n_ 3 (f_ (df h9))] ?_
        by_cases h10:((aE r a1)+1)>3652059
        ·have HE:=L10 h10
         exact(hX.to HE.symm).e [t_ (dt h10)]
        ·have HE:=K10 h10
         exact(hX.to HE.symm).e [f_ (df h10)]
      ·obtain⟨L8,K8⟩:=K7 h7
       refine hX.go [f_ (beq_eq_false_iff_ne.2 h7)] ?_
       by_cases h8:(aE r a1)<1
       ·have HE:=L8 h8
        exact(hX.to HE.symm).e [n_ 3 (t_ (dt h8)),t_ rt]
       ·obtain⟨L9,K9⟩:=K8 h8
        refine hX.go [n_ 3 (f_ (df h8))] ?_
        by_cases h9:(aE r a1)>3652059
        ·have HE:=L9 h9
         exact(hX.to HE.symm).e [t_ (dt h9)]
        ·have HE:=K9 h9
         exact(hX.to HE.symm).e [f_ (df h9)]
     omega
  ·obtain⟨L4,K4⟩:=K3 h3
   refine hX.go [n_ 3 (f_ (beq_eq_false_iff_ne.2 h3)),f_ rf] ?_
   by_cases h4:r.sh=2
   ·obtain⟨L5,K5⟩:=L4 h4
    refine hX.go [n_ 3 (t_ (beq_iff_eq.2 h4))] ?_
    by_cases h5:(bI (aE r a1))=5
    ·obtain⟨h6,L7,K7⟩:=L5 h5
     refine hX.go [t_ (beq_iff_eq.2 h5),q_ h6] ?_
     by_cases h7:r.sh>0
     ·obtain⟨L8,K8⟩:=L7 h7
      refine hX.go [n_ 3 (t_ (dt h7))] ?_
      by_cases h8:(bI (aE r a1))=6
      ·omega
      ·obtain⟨L9,K9⟩:=K8 h8
       refine hX.go [f_ (beq_eq_false_iff_ne.2 h8)] ?_
       by_cases h9:((aE r a1)+2)<1
       ·omega
       ·obtain⟨L10,K10⟩:=K9 h9
        refine hX.go [n_ 3 (f_ (df h9))] ?_
        by_cases h10:((aE r a1)+2)>3652059
        ·have HE:=L10 h10
         exact(hX.to HE.symm).e [t_ (dt h10)]
        ·have HE:=K10 h10
         exact(hX.to HE.symm).e [f_ (df h10)]
     omega
    ·obtain⟨L6,K6⟩:=K5 h5
     refine hX.go [f_ (beq_eq_false_iff_ne.2 h5)] ?_
     by_cases h6:r.sh>0
     ·obtain⟨L7,K7⟩:=L6 h6
      refine hX.go [n_ 3 (t_ (dt h6))] ?_
      by_cases h7:(bI (aE r a1))=6
      ·obtain⟨h8,L9,K9⟩:=L7 h7
       refine hX.go [t_ (beq_iff_eq.2 h7),q_ h8] ?_
       by_cases h9:((aE r a1)+1)<1
       ·omega
       ·obtain⟨L10,K10⟩:=K9 h9
        refine hX.go [n_ 3 (f_ (df h9))] ?_
        by_cases h10:((aE r a1)+1)>3652059
        ·have HE:=L10 h10
         exact(hX.to HE.symm).e [t_ (dt h10)]
        ·have HE:=K10 h10
         exact(hX.to HE.symm).e [f_ (df h10)]
      ·obtain⟨L8,K8⟩:=K7 h7
       refine hX.go [f_ (beq_eq_false_iff_ne.2 h7)] ?_
       by_cases h8:(aE r a1)<1
       ·have HE:=L8 h8
        exact(hX.to HE.symm).e [n_ 3 (t_ (dt h8)),t_ rt]
       ·obtain⟨L9,K9⟩:=K8 h8
        refine hX.go [n_ 3 (f_ (df h8))] ?_
        by_cases h9:(aE r a1)>3652059
        ·have HE:=L9 h9
         exact(hX.to HE.symm).e [t_ (dt h9)]
        ·have HE:=K9 h9
         exact(hX.to HE.symm).e [f_ (df h9)]
     omega
   ·obtain⟨L5,K5⟩:=K4 h4
    refine hX.go [n_ 3 (f_ (beq_eq_false_iff_ne.2 h4)),f_ rf] ?_
    by_cases h5:r.sh>0
    ·obtain⟨L6,K6⟩:=L5 h5
     refine hX.go [n_ 3 (t_ (dt h5))] ?_
     by_cases h6:(bI (aE r a1))=6
     ·obtain⟨h7,L8,K8⟩:=L6 h6
      refine hX.go [t_ (beq_iff_eq.2 h6),q_ h7] ?_
      by_cases h8:((aE r a1)+1)<1
      ·omega
      ·obtain⟨L9,K9⟩:=K8 h8
       refine hX.go [n_ 3 (f_ (df h8))] ?_
       by_cases h9:((aE r a1)+1)>3652059
       ·have HE:=L9 h9
        exact(hX.to HE.symm).e [t_ (dt h9)]
       ·have HE:=K9 h9
        exact(hX.to HE.symm).e [f_ (df h9)]
     ·obtain⟨L7,K7⟩:=K6 h6
      refine hX.go [f_ (beq_eq_false_iff_ne.2 h6)] ?_
      by_cases h7:(aE r a1)<1
      ·have HE:=L7 h7
       exact(hX.to HE.symm).e [n_ 3 (t_ (dt h7)),t_ rt]
      ·obtain⟨L8,K8⟩:=K7 h7
       refine hX.go [n_ 3 (f_ (df h7))] ?_
       by_cases h8:(aE r a1)>3652059
       ·have HE:=L8 h8
        exact(hX.to HE.symm).e [t_ (dt h8)]
       ·have HE:=K8 h8
        exact(hX.to HE.symm).e [f_ (df h8)]
    ·obtain⟨L6,K6⟩:=K5 h5
     refine hX.go [n_ 3 (f_ (df h5)),f_ rf] ?_
     by_cases h6:(aE r a1)<1
     ·have HE:=L6 h6
      exact(hX.to HE.symm).e [n_ 3 (t_ (dt h6)),t_ rt]
     ·obtain⟨L7,K7⟩:=K6 h6
      refine hX.go [n_ 3 (f_ (df h6))] ?_
      by_cases h7:(aE r a1)>3652059
      ·have HE:=L7 h7
       exact(hX.to HE.symm).e [t_ (dt h7)]
      ·have HE:=K7 h7
       exact(hX.to HE.symm).e [f_ (df h7)]
 ·have HE:=L1 h1
  exact(hX.to HE.symm).e [t_ (nt h1)]
theorem Lc {n w sh:Int} (h:xy n w sh<1∨xy n w sh>3652059):(.af [I 0,B false]:SV)= .af [I (im (xy n w sh)),B (kz (im (xy n w sh)))]:=by
 rw[show im (xy n w sh)=0 by unfold im;rw[if_neg (by omega)]];rfl
theorem K_ {n w sh m:Int} (h:xy n w sh=m) (h1:1≤m) (h2:m≤3652059):(.af [I m,B true]:SV)= .af [I (im (xy n w sh)),B (kz (im (xy n w sh)))]:=by
 grind [im,kz]
theorem KZ {n w sh m:Int} (h:xy n w sh=m):(.af [I (im m),B ((sw m)==0)]:SV)= .af [I (im (xy n w sh)),B (kz (im (xy n w sh)))]:=by
 rw[h,Mn]
theorem MJ {r:Rl} {y:Int} (hm:cQ r=true):S 237 [.agg (zo r),I y] [] (.af [I (iS r y),B (kz (iS r y))]) []:=by
 have h:=Bs.1 hm
 have hl:=AG (y:=y) h
 have hs:=h.2.2.1
 refine Cd ⟨hm,fun c=> ?_,fun c=> ?_⟩
 ·have c:=F5.1 c
  grind [iS]
 ·have c:=J7.1 c
  rw[show iS r y=im (xy (aE r y) (bI (aE r y)) r.sh)by unfold iS;rw[if_neg c]]
  generalize bI (aE r y)=w
  generalize aE r y=n at*
  generalize r.sh=sh at*
  repeat' first|intro _|apply And.intro
  all_goals first|omega|exact aT (by omega)|exact KZ (by unfold xy;(repeat' split)<;>omega)
theorem MH {r:Rl} {y:Int} (hm:cQ r=true):S 165 [.agg (zo r),I y] [] (.af [I (iS r y),B (kz (iS r y))]) []:=by
 have h:=Bs.1 hm
 have hl:=AG (y:=y) h
 have hs:=h.2.2.1
 refine oJ ⟨hm,fun c=> ?_,fun c=> ?_⟩
 ·have c:=F5.1 c
  grind [iS]
 ·have c:=J7.1 c
  rw[show iS r y=im (xy (aE r y) (bI (aE r y)) r.sh)by unfold iS;rw[if_neg c]]
  generalize bI (aE r y)=w
  generalize aE r y=n at*
  generalize r.sh=sh at*
  repeat' first|intro _|apply And.intro
  all_goals first|omega|exact aT (by omega)|exact K_ (by unfold xy;(repeat' split)<;>omega) (by omega) (by omega)|exact Lc (by unfold xy;(repeat' split)<;>omega)|(exfalso;omega)
noncomputable def e9 (x1:Int) (x2:Int) (x3:Int) (x4:Int) (x5:Int) (x6:Int) (x7:Int) (x8:Int) (x9:Int) (x10:Int) (x11:Int) (x12:Int) (x13:Int):SC:=
 ⟨[⟨212,bJ 39 [(1,I x1),(2, .ptr 0 0),(5, .ptr 1 0),(7,I x2)],[.code (aa Tryz.f212 [1,1,1,0,1,0,0]), .inLoop (aa Tryz.f212 [1,1,1,0,1,0,0]), .inBlock 0, .code (aa Tryz.f212 [1,1,1,1])],{}⟩],[some (.box true [I x3,I x4,I x5,I x6,I x7,I x8,I x9,I x10]),some (.box true [I x11,I x12,I x13])]⟩
theorem zl {X:Cx} {r:Rl} {a1:Int} {res:SV} (hX:Fi X 212 [] (res) []) (H:((cE a1)≠0→(B false:SV)=res)∧((cE a1)=0→Ir ((cY a1)-1)∧Ok X (e9 a1 ((cY a1)-1) r.kind r.aY r.day r.k r.off r.sh r.fr r.to (cY a1) (cM a1) (cD a1)))):
  Ok X (entry Tryz.prog 212 [.agg [I r.kind,I r.aY,I r.day,I r.k,I r.off,I r.sh,I r.fr,I r.to],I a1] []):=by
 obtain⟨L0,K0⟩:=H
 refine hX.go [c_ [] (fg a1)] ?_
 by_cases h0:(cE a1)=0
 ·obtain⟨h1,k⟩:=K0 h0
  exact hX.h 12 [f_ (bne_eq_false_iff_eq.2 h0),q_ h1] (aA 2) k
 ·have HE:=L0 h0
  exact(hX.to HE.symm).e [t_ (bne_iff_ne.2 h0)]
theorem s7 {X:Cx} {x1 x2 x3 x4 x5 x6 x7 x8 x9 x10 x11 x12 x13:Int} {res:SV} (hX:Fi X 212 [] (res) []) (H:Ir (x11+1)∧(x2≤(x11+1)→cQ (Rl.mk x3 x4 x5 x6 x7 x8 x9 x10)=true∧((kz (iS (Rl.mk x3 x4 x5 x6 x7 x8 x9 x10) x2))=true→((iS (Rl.mk x3 x4 x5 x6 x7 x8 x9 x10) x2)=x1→(B true:SV)=res)∧((iS (Rl.mk x3 x4 x5 x6 x7 x8 x9 x10) x2)≠x1→Ir (x2+1)∧Ok X (e9 x1 (x2+1) x3 x4 x5 x6 x7 x8 x9 x10 x11 x12 x13)))∧((kz (iS (Rl.mk x3 x4 x5 x6 x7 x8 x9 x10) x2))=false→Ir (x2+1)∧Ok X (e9 x1 (x2+1) x3 x4 x5 x6 x7 x8 x9 x10 x11 x12 x13)))∧(¬x2≤(x11+1)→(B false:SV)=res)):
  Ok X (e9 x1 x2 x3 x4 x5 x6 x7 x8 x9 x10 x11 x12 x13):=by
 obtain⟨h0,L1,K1⟩:=H
 refine hX.go [q_ h0] ?_
 by_cases h1:x2≤(x11+1)
 ·obtain⟨h2,L3,K3⟩:=L1 h1
  refine hX.go [t_ (dt h1),c_ [] (show S 237 [.agg [I x3,I x4,I x5,I x6,I x7,I x8,I x9,I x10],I x2] [] (.af [I (iS (Rl.mk x3 x4 x5 x6 x7 x8 x9 x10) x2),B (kz (iS (Rl.mk x3 x4 x5 x6 x7 x8 x9 x10) x2))]) []from MJ h2)] ?_
  rcases aq (kz (iS (Rl.mk x3 x4 x5 x6 x7 x8 x9 x10) x2))with h3|h3
  ·obtain⟨L4,K4⟩:=L3 h3
   refine hX.go [n_ 4 (t_ h3)] ?_
   by_cases h4:(iS (Rl.mk x3 x4 x5 x6 x7 x8 x9 x10) x2)=x1
   ·have HE:=L4 h4
    exact(hX.to HE.symm).e [t_ (beq_iff_eq.2 h4)]
   ·obtain⟨h5,k⟩:=K4 h4
    exact hX.h 9 [f_ (beq_eq_false_iff_ne.2 h4),q_ h5] (aA 2) k
  ·obtain⟨h4,k⟩:=K3 h3
   exact hX.h 14 [n_ 4 (f_ h3),f_ rf,q_ h4] (aA 2) k
 ·have HE:=K1 h1
  exact(hX.to HE.symm).e [f_ (df h1)]
noncomputable def bM (x1:Int) (x2:Int) (x3:Int) (x4:Int) (x5:Int) (x6:Int) (x7:Int) (x8:Int) (x9:Int) (x10:Int) (x11:Int) (x12:Int) (x13:Int):SC:=
 ⟨[⟨129,bJ 39 [(1,I x1),(2, .ptr 0 0),(5, .ptr 1 0),(7,I x2)],[.code (aa Tryz.f129 [1,1,1,0,1,0,0]), .inLoop (aa Tryz.f129 [1,1,1,0,1,0,0]), .inBlock 0, .code (aa Tryz.f129 [1,1,1,1])],{}⟩],[some (.box true [I x3,I x4,I x5,I x6,I x7,I x8,I x9,I x10]),some (.box true [I x11,I x12,I x13])]⟩
theorem m9 {X:Cx} {r:Rl} {a1:Int} {res:SV} (hX:Fi X 129 [] (res) []) (H:((cE a1)≠0→(B false:SV)=res)∧((cE a1)=0→Ir ((cY a1)-1)∧Ok X (bM a1 ((cY a1)-1) r.kind r.aY r.day r.k r.off r.sh r.fr r.to (cY a1) (cM a1) (cD a1)))):
  Ok X (entry Tryz.prog 129 [.agg [I r.kind,I r.aY,I r.day,I r.k,I r.off,I r.sh,I r.fr,I r.to],I a1] []):=by
 obtain⟨L0,K0⟩:=H
 refine hX.go [c_ [] (rX a1)] ?_
 by_cases h0:(cE a1)=0
 ·obtain⟨h1,k⟩:=K0 h0
  exact hX.h 12 [f_ (bne_eq_false_iff_eq.2 h0),q_ h1] (aA 2) k
 ·have HE:=L0 h0
  exact(hX.to HE.symm).e [t_ (bne_iff_ne.2 h0)]
theorem fB {X:Cx} {x1 x2 x3 x4 x5 x6 x7 x8 x9 x10 x11 x12 x13:Int} {res:SV} (hX:Fi X 129 [] (res) []) (H:Ir (x11+1)∧(x2≤(x11+1)→cQ (Rl.mk x3 x4 x5 x6 x7 x8 x9 x10)=true∧((kz (iS (Rl.mk x3 x4 x5 x6 x7 x8 x9 x10) x2))=true→((iS (Rl.mk x3 x4 x5 x6 x7 x8 x9 x10) x2)=x1→(B true:SV)=res)∧((iS (Rl.mk x3 x4 x5 x6 x7 x8 x9 x10) x2)≠x1→Ir (x2+1)∧Ok X (bM x1 (x2+1) x3 x4 x5 x6 x7 x8 x9 x10 x11 x12 x13)))∧((kz (iS (Rl.mk x3 x4 x5 x6 x7 x8 x9 x10) x2))=false→Ir (x2+1)∧Ok X (bM x1 (x2+1) x3 x4 x5 x6 x7 x8 x9 x10 x11 x12 x13)))∧(¬x2≤(x11+1)→(B false:SV)=res)):
  Ok X (bM x1 x2 x3 x4 x5 x6 x7 x8 x9 x10 x11 x12 x13):=by
 obtain⟨h0,L1,K1⟩:=H
 refine hX.go [q_ h0] ?_
 by_cases h1:x2≤(x11+1)
 ·obtain⟨h2,L3,K3⟩:=L1 h1
  refine hX.go [t_ (dt h1),c_ [] (show S 165 [.agg [I x3,I x4,I x5,I x6,I x7,I x8,I x9,I x10],I x2] [] (.af [I (iS (Rl.mk x3 x4 x5 x6 x7 x8 x9 x10) x2),B (kz (iS (Rl.mk x3 x4 x5 x6 x7 x8 x9 x10) x2))]) []from MH h2)] ?_
  rcases aq (kz (iS (Rl.mk x3 x4 x5 x6 x7 x8 x9 x10) x2))with h3|h3
  ·obtain⟨L4,K4⟩:=L3 h3
   refine hX.go [n_ 4 (t_ h3)] ?_
   by_cases h4:(iS (Rl.mk x3 x4 x5 x6 x7 x8 x9 x10) x2)=x1
   ·have HE:=L4 h4
    exact(hX.to HE.symm).e [t_ (beq_iff_eq.2 h4)]
   ·obtain⟨h5,k⟩:=K4 h4
    exact hX.h 9 [f_ (beq_eq_false_iff_ne.2 h4),q_ h5] (aA 2) k
  ·obtain⟨h4,k⟩:=K3 h3
   exact hX.h 14 [n_ 4 (f_ h3),f_ rf,q_ h4] (aA 2) k
 ·have HE:=K1 h1
  exact(hX.to HE.symm).e [f_ (df h1)]
theorem zD {X:Cx} {r:Rl} {n y Y M D:Int} {res:SV} (hX:Fi X 212 [] res []) (hm:cQ r=true) (hn:1≤n) (hy:0≤y∧y≤100000) (hY:0≤Y∧Y≤10000) (hle:y≤Y+1) (k1:iS r y=n→B true=res) (k2:iS r y≠n→Ok X (e9 n (y+1) r.kind r.aY r.day r.k r.off r.sh r.fr r.to Y M D)):
  Ok X (e9 n y r.kind r.aY r.day r.k r.off r.sh r.fr r.to Y M D):=by
 refine s7 hX ⟨aT (by omega),fun _=>⟨hm,fun c=>⟨fun d=>k1 d,fun d=>⟨aT (by omega),k2 d⟩⟩,fun c=>⟨aT (by omega),k2 ?_⟩⟩,fun c=>absurd hle c⟩
 have:=F5.1 c
 intro d;rw[show iS r y=0 from this]at d;omega
theorem MI {r:Rl} {n:Int} (hm:cQ r=true):S 212 [.agg (zo r),I n] [] (B (tF r n)) []:=by
 refine ab.st fun X hX=>zl hX ⟨fun c=> ?_,fun c=> ?_⟩
 ·rw[show tF r n=false by unfold tF;rw[show ai n=false by cases h:ai n;rfl;exact absurd (pQ.2 h) c,Bool.false_and]]
 ·have hd:=pQ.1 c
  have hn:=aP.1 hd
  obtain⟨-, -, -,y1,y2, -⟩:=cL hd
  have e:tF r n=(decide (iS r (cY n-1)=n)||(decide (iS r (cY n)=n)||decide (iS r (cY n+1)=n))):=by unfold tF;rw[hd,Bool.true_and]
  rw[e]at hX
  refine⟨aT (by omega),zD hX hm (by omega) (by omega) (by omega) (by omega) (fun d=>by rw[decide_eq_true d,Bool.true_or]) (fun d=> ?_)⟩
  rw[show cY n-1+1=cY n by omega]
  refine zD hX hm (by omega) (by omega) (by omega) (by omega) (fun d'=>by rw[decide_eq_true d',Bool.true_or,Bool.or_true]) (fun d'=> ?_)
  refine zD hX hm (by omega) (by omega) (by omega) (by omega) (fun d''=>by rw[decide_eq_true d'',Bool.or_true,Bool.or_true]) (fun d''=> ?_)
  refine s7 hX ⟨aT (by omega),fun c=>absurd c (by omega),fun _=> ?_⟩
  simp_all
theorem th {X:Cx} {r:Rl} {n y Y M D:Int} {res:SV} (hX:Fi X 129 [] res []) (hm:cQ r=true) (hn:1≤n) (hy:0≤y∧y≤100000) (hY:0≤Y∧Y≤10000) (hle:y≤Y+1) (k1:iS r y=n→B true=res) (k2:iS r y≠n→Ok X (bM n (y+1) r.kind r.aY r.day r.k r.off r.sh r.fr r.to Y M D)):
  Ok X (bM n y r.kind r.aY r.day r.k r.off r.sh r.fr r.to Y M D):=by
 refine fB hX ⟨aT (by omega),fun _=>⟨hm,fun c=>⟨fun d=>k1 d,fun d=>⟨aT (by omega),k2 d⟩⟩,fun c=>⟨aT (by omega),k2 ?_⟩⟩,fun c=>absurd hle c⟩
 have:=F5.1 c
 intro d;rw[show iS r y=0 from this]at d;omega
theorem J3 {r:Rl} {n:Int} (hm:cQ r=true):S 129 [.agg (zo r),I n] [] (B (tF r n)) []:=by
 refine ab.st fun X hX=>m9 hX ⟨fun c=> ?_,fun c=> ?_⟩
 ·rw[show tF r n=false by unfold tF;rw[show ai n=false by cases h:ai n;rfl;exact absurd (pQ.2 h) c,Bool.false_and]]
 ·have hd:=pQ.1 c
  have hn:=aP.1 hd
  obtain⟨-, -, -,y1,y2, -⟩:=cL hd
  have e:tF r n=(decide (iS r (cY n-1)=n)||(decide (iS r (cY n)=n)||decide (iS r (cY n+1)=n))):=by unfold tF;rw[hd,Bool.true_and]
  rw[e]at hX
  refine⟨aT (by omega),th hX hm (by omega) (by omega) (by omega) (by omega) (fun d=>by rw[decide_eq_true d,Bool.true_or]) (fun d=> ?_)⟩
  rw[show cY n-1+1=cY n by omega]
  refine th hX hm (by omega) (by omega) (by omega) (by omega) (fun d'=>by rw[decide_eq_true d',Bool.true_or,Bool.or_true]) (fun d'=> ?_)
  refine th hX hm (by omega) (by omega) (by omega) (by omega) (fun d''=>by rw[decide_eq_true d'',Bool.or_true,Bool.or_true]) (fun d''=> ?_)
  refine fB hX ⟨aT (by omega),fun c=>absurd c (by omega),fun _=> ?_⟩
  simp_all
theorem m8 {r:Rl} {res:SV} (H:(r.kind<0→(B false:SV)=res)∧(¬r.kind<0→(r.kind>3→(B false:SV)=res)∧(¬r.kind>3→(r.sh<0→(B false:SV)=res)∧(¬r.sh<0→(r.sh>2→(B false:SV)=res)∧(¬r.sh>2→(r.fr<1→(B false:SV)=res)∧(¬r.fr<1→(r.fr>r.to→(B false:SV)=res)∧(¬r.fr>r.to→(r.to>9999→(B false:SV)=res)∧(¬r.to>9999→(r.kind=3→(B (ee r.off (-100) 250):SV)=res)∧(r.kind≠3→(r.aY<1→(B false:SV)=res)∧(¬r.aY<1→(r.aY>12→(B false:SV)=res)∧(¬r.aY>12→(r.kind=0→(0:Int)≤2000∧(B (ee r.day 1 (len 2000 r.aY)):SV)=res)∧(r.kind≠0→((ee r.day 0 6)=true→(r.kind=2→(B true:SV)=res)∧(r.kind≠2→(B (ee r.k 1 5):SV)=res))∧((ee r.day 0 6)=false→(B false:SV)=res))))))))))))):
  S 48 [.agg [I r.kind,I r.aY,I r.day,I r.k,I r.off,I r.sh,I r.fr,I r.to]] [] (res) []:=by
 refine ab.st fun X hX=> ?_
 obtain⟨L0,K0⟩:=H
 by_cases h0:r.kind<0
 ·have HE:=L0 h0
  exact(hX.to HE.symm).e [n_ 4 (t_ (dt h0)),n_ 23 (t_ rt)]
 ·obtain⟨L1,K1⟩:=K0 h0
  refine hX.go [n_ 4 (f_ (df h0))] ?_
  by_cases h1:r.kind>3
  ·have HE:=L1 h1
   exact(hX.to HE.symm).e [n_ 4 (t_ (dt h1)),n_ 19 (t_ rt)]
  ·obtain⟨L2,K2⟩:=K1 h1
   refine hX.go [n_ 4 (f_ (df h1))] ?_
   by_cases h2:r.sh<0
   ·have HE:=L2 h2
    exact(hX.to HE.symm).e [n_ 4 (t_ (dt h2)),n_ 15 (t_ rt)]
   ·obtain⟨L3,K3⟩:=K2 h2
    refine hX.go [n_ 4 (f_ (df h2))] ?_
    by_cases h3:r.sh>2
    ·have HE:=L3 h3
     exact(hX.to HE.symm).e [n_ 4 (t_ (dt h3)),n_ 11 (t_ rt)]
    ·obtain⟨L4,K4⟩:=K3 h3
     refine hX.go [n_ 4 (f_ (df h3))] ?_
     by_cases h4:r.fr<1
     ·have HE:=L4 h4
      exact(hX.to HE.symm).e [n_ 6 (t_ (dt h4)),n_ 5 (t_ rt)]
     ·obtain⟨L5,K5⟩:=K4 h4
      refine hX.go [n_ 6 (f_ (df h4))] ?_
      by_cases h5:r.fr>r.to
      ·have HE:=L5 h5
       exact(hX.to HE.symm).e [n_ 4 (t_ (dt h5)),t_ rt]
      ·obtain⟨L6,K6⟩:=K5 h5
       refine hX.go [n_ 4 (f_ (df h5))] ?_
       by_cases h6:r.to>9999
       ·have HE:=L6 h6
        exact(hX.to HE.symm).e [t_ (dt h6)]
       ·obtain⟨L7,K7⟩:=K6 h6
        refine hX.go [f_ (df h6)] ?_
        by_cases h7:r.kind=3
        ·have HE:=L7 h7
         exact(hX.to HE.symm).e [t_ (beq_iff_eq.2 h7),c_ [] (Bf r.off (-100) 250)]
        ·obtain⟨L8,K8⟩:=K7 h7
         refine hX.go [f_ (beq_eq_false_iff_ne.2 h7)] ?_
         by_cases h8:r.aY<1
         ·have HE:=L8 h8
          exact(hX.to HE.symm).e [n_ 4 (t_ (dt h8)),t_ rt]
         ·obtain⟨L9,K9⟩:=K8 h8
          refine hX.go [n_ 4 (f_ (df h8))] ?_
          by_cases h9:r.aY>12
          ·have HE:=L9 h9
           exact(hX.to HE.symm).e [t_ (dt h9)]
          ·obtain⟨L10,K10⟩:=K9 h9
           refine hX.go [f_ (df h9)] ?_
           by_cases h10:r.kind=0
           ·obtain⟨h11,HE⟩:=L10 h10
            exact(hX.to HE.symm).e [t_ (beq_iff_eq.2 h10),d_ 5,c_ [] (show S 74 [I 2000,I r.aY] [] (I (len 2000 r.aY)) []from fU h11),c_ [] (Bf r.day 1 (len 2000 r.aY))]
           ·obtain⟨L11,K11⟩:=K10 h10
            refine hX.go [f_ (beq_eq_false_iff_ne.2 h10),c_ [] (Bf r.day 0 6)] ?_
            rcases aq (ee r.day 0 6)with h11|h11
            ·obtain⟨L12,K12⟩:=L11 h11
             refine hX.go [n_ 4 (t_ h11)] ?_
             by_cases h12:r.kind=2
             ·have HE:=L12 h12
              exact(hX.to HE.symm).e [n_ 3 (t_ (beq_iff_eq.2 h12)),t_ h11,t_ (beq_iff_eq.2 h12),t_ h11]
             ·have HE:=K12 h12
              exact(hX.to HE.symm).e [n_ 3 (f_ (beq_eq_false_iff_ne.2 h12)),c_ [] (Bf r.k 1 5),t_ h11,f_ (beq_eq_false_iff_ne.2 h12),t_ h11]
            ·have HE:=K11 h11
             exact(hX.to HE.symm).e [n_ 6 (f_ h11)]
theorem IC (r:Rl):S 48 [.agg (zo r)] [] (B (cQ r)) []:=by
 grind [vq,m8,cQ,CR]
end Go.Proofs.YtelidogcomffkaaGreatDoor
