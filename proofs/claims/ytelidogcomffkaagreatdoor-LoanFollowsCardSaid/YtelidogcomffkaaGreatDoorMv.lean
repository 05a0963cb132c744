/-
A day so many months on (chapter 5), of the program and of the reference.
-/
import Derived.Test.YtelidogcomffkaaGreatDoorThi
import Derived.Test.YtelidogcomffkaaGreatDoorProg
import Derived.KernelRfl
set_option linter.unusedSectionVars false
set_option linter.unusedSimpArgs false
set_option linter.unusedVariables false
set_option maxRecDepth 100000
namespace Go.Proofs.YtelidogcomffkaaGreatDoor
open Go Go.Sx
variable [Env]
theorem irT {x:Int} (h: -9000000000000000000≤x∧x≤9000000000000000000):Ir x:=by simp only[Ir,InR];omega
def mSt (m:Int):Int:=ahd (m/12)+mons (m/12) (m%12).toNat
def mLn (m:Int):Int:=len (m/12) (m%12+1)
def mIdx (n:Int):Int:=12*cY n+cM n-1
theorem mSt_succ {m:Int} (h:12≤m):mSt (m+1)=mSt m+mLn m:=by
 unfold mSt mLn
 by_cases c:m%12=11
 ·have e1:(m+1)/12=m/12+1:=by omega
  have e2:(m+1)%12=0:=by omega
  rw[e1,e2,c,ahd_succ _ (by omega)]
  have h12:=mons12 (m/12)
  have h3:mons (m/12) 12=mons (m/12) 11+len (m/12) 12:=rfl
  have e3:mons (m/12+1) (Int.toNat 0)=0:=rfl
  have e4:mons (m/12) (Int.toNat 11)=mons (m/12) 11:=rfl
  rw[e3,e4,show(11:Int)+1=12 from rfl]
  omega
 ·have e1:(m+1)/12=m/12:=by omega
  obtain⟨j,hj⟩: ∃ j:Nat,m%12=(j:Int):=⟨(m%12).toNat,by omega⟩
  have e2:(m+1)%12=((j+1:Nat):Int):=by omega
  rw[e1,e2,hj,Int.toNat_natCast,Int.toNat_natCast]
  show ahd (m/12)+(mons (m/12) j+len (m/12) ((j+1:Nat):Int))=_
  rw[show((j+1:Nat):Int)=(j:Int)+1 by omega];omega
theorem len_ge {y m:Int} (h1:1≤m) (h2:m≤12):28≤len y m:=by
 unfold len
 rw[if_neg (by omega)]
 split
 ·omega
 ·have:m=1∨m=2∨m=3∨m=4∨m=5∨m=6∨m=7∨m=8∨m=9∨m=10∨m=11∨m=12:=by omega
  rcases this with rfl|rfl|rfl|rfl|rfl|rfl|rfl|rfl|rfl|rfl|rfl|rfl<;>decide
theorem mLn_le (m:Int):28≤mLn m∧mLn m≤31:=⟨len_ge (by omega) (by omega),(len_le _ _).1⟩
theorem mSt_mono {m:Int} (h:12≤m): ∀ k:Nat,mSt m+28*(k:Int)≤mSt (m+k)∧mSt (m+k)≤mSt m+31*(k:Int)
 |0=>by simp
 |k+1=>by
  have h1:=mSt_mono h k
  have h2:=mSt_succ (m:=m+k) (by omega)
  have h3:=mLn_le (m+k)
  rw[show m+((k+1:Nat):Int)=m+(k:Int)+1 by omega,h2]
  omega
theorem mSt_le {m m':Int} (h:12≤m) (h':m≤m'):mSt m+28*(m'-m)≤mSt m'∧mSt m'≤mSt m+31*(m'-m):=by
 obtain⟨k,hk⟩: ∃ k:Nat,m'=m+(k:Int):=⟨(m'-m).toNat,by omega⟩
 subst hk
 have:=mSt_mono h k
 omega
theorem mSt_first:mSt 12=0:=rfl
theorem mSt_last:mSt 120000=3652059:=rfl
theorem day_idx {n:Int} (h:isDay n=true):12≤mIdx n∧mIdx n≤119999∧1≤cD n∧cD n≤mLn (mIdx n)∧n=mSt (mIdx n)+cD n:=by
 obtain⟨-,h1,h2,h3,h4,h5,h6, -,h8⟩:=civ_ok h
 have e1:mIdx n/12=cY n:=by unfold mIdx;omega
 have e2:mIdx n%12=cM n-1:=by unfold mIdx;omega
 refine⟨by unfold mIdx;omega,by unfold mIdx;omega,h5, ?_, ?_⟩
 ·unfold mLn;rw[e1,e2,show cM n-1+1=cM n by omega];exact h6
 ·unfold mSt;rw[e1,e2];exact h8
def tgt (n:Int) (eom:Bool) (m:Int):Int:=if(eom&&lastB n)=true then mLn m else if cD n≤mLn m then cD n else mLn m
theorem tgt_ok {n:Int} (h:isDay n=true) (eom:Bool) (m:Int):1≤tgt n eom m∧tgt n eom m≤mLn m:=by
 obtain⟨-, -,h1, -, -⟩:=day_idx h
 have:=mLn_le m
 unfold tgt
 split
 ·omega
 ·split<;>omega
def mv (n k:Int) (eom:Bool):Int×Int:=if isDay n=true∧12≤mIdx n+k∧mIdx n+k≤119999 then(mSt (mIdx n+k)+tgt n eom (mIdx n+k),0)else(0,3)
theorem mv_ok {n k:Int} {eom:Bool} (h:isDay n=true∧12≤mIdx n+k∧mIdx n+k≤119999):mv n k eom=(mSt (mIdx n+k)+tgt n eom (mIdx n+k),0):=by unfold mv;rw[if_pos h]
theorem mv_no {n k:Int} {eom:Bool} (h: ¬(isDay n=true∧12≤mIdx n+k∧mIdx n+k≤119999)):mv n k eom=(0,3):=by unfold mv;rw[if_neg h]
theorem mv_iff {n k:Int} {eom:Bool}:(mv n k eom).2=0↔isDay n=true∧12≤mIdx n+k∧mIdx n+k≤119999:=by
 unfold mv;split
 ·rename_i h;exact⟨fun _=>h,fun _=>rfl⟩
 ·rename_i h;exact⟨fun c=>absurd c (by decide),fun c=>absurd c h⟩
theorem mv_zero {n:Int} (h:isDay n=true) (eom:Bool):mv n 0 eom=(n,0):=by
 obtain⟨h1,h2,h3,h4,h5⟩:=day_idx h
 rw[mv_ok ⟨h,by omega,by omega⟩,Int.add_zero]
 have:tgt n eom (mIdx n)=cD n:=by
  unfold tgt
  split
  ·rename_i c
   rw[Bool.and_eq_true]at c
   have:=c.2
   unfold lastB at this
   rw[Bool.and_eq_true,beq_iff_eq]at this
   have e1:mIdx n/12=cY n:=by
    obtain⟨-,g1,g2,g3,g4, -⟩:=civ_ok h
    unfold mIdx;omega
   have e2:mIdx n%12=cM n-1:=by
    obtain⟨-,g1,g2,g3,g4, -⟩:=civ_ok h
    unfold mIdx;omega
   unfold mLn;rw[e1,e2,show cM n-1+1=cM n by omega];exact this.2.symm
  ·first|rfl|exact if_pos h4
 rw[this,←h5]
theorem in_month {m d:Int} (h1:12≤m) (h2:m≤119999) (h3:1≤d) (h4:d≤mLn m):isDay (mSt m+d)=true:=by
 have a:=mSt_le (m:=12) (m':=m) (by decide) h1
 have b:=mSt_le (m:=m+1) (m':=120000) (by omega) (by omega)
 have c:=mSt_succ h1
 rw[mSt_first]at a
 rw[mSt_last]at b
 rw[isDay_iff];omega
theorem mv_day {n k:Int} {eom:Bool} (h:(mv n k eom).2=0):isDay (mv n k eom).1=true:=by
 have h':=mv_iff.1 h
 have:=tgt_ok h'.1 eom (mIdx n+k)
 rw[mv_ok h']
 exact in_month h'.2.1 h'.2.2 this.1 this.2
theorem mv_lt {n k k':Int} {eom:Bool} (h:(mv n k eom).2=0) (h':(mv n k' eom).2=0) (hk:k<k'):(mv n k eom).1+28*(k'-k)-30≤(mv n k' eom).1∧(mv n k eom).1<(mv n k' eom).1:=by
 have g:=mv_iff.1 h
 have g':=mv_iff.1 h'
 have t:=tgt_ok g.1 eom (mIdx n+k)
 have t':=tgt_ok g.1 eom (mIdx n+k')
 rw[mv_ok g,mv_ok g']
 have a:=mSt_le (m:=mIdx n+k+1) (m':=mIdx n+k') (by omega) (by omega)
 have b:=mSt_succ (m:=mIdx n+k) (by omega)
 have c:=mLn_le (mIdx n+k)
 simp only
 omega
theorem may_month {m d:Int} (h1:12≤m) (h2:m≤119999) (h3:1≤d) (h4:d≤mLn m):mayC (m/12) (m%12+1) d=true:=by
 unfold mayC;unfold mLn at h4;exact decide_eq_true ⟨by omega,by omega,by omega,by omega,h3,h4⟩
theorem numb_month (m d:Int):numb (m/12) (m%12+1) d=mSt m+d:=by
 unfold numb mSt;rw[show m%12+1-1=m%12 by omega];omega
end Go.Proofs.YtelidogcomffkaaGreatDoor
namespace Go.Proofs.YtelidogcomffkaaGreatDoor
open Go Go.Sx
variable [Env]
def nbV (y m d:Int):Int:=if mayC y m d=true then numb y m d else 0
def nbE (y m d:Int):Int:=if mayC y m d=true then 0 else 3
theorem cNumberT (y m d:Int):S 180 [.agg [I y,I m,I d]] [] (.tup [I (nbV y m d),I (nbE y m d)]) []:=by
 unfold nbV nbE
 rcases bcase (mayC y m d)with h|h
 ·rw[if_pos h,if_pos h];exact cNumber h
 ·rw[if_neg (by rw[h];decide),if_neg (by rw[h];decide)];exact cNumber_bad h
theorem rNumberT (y m d:Int):S 112 [.agg [I y,I m,I d]] [] (.tup [I (nbV y m d),I (nbE y m d)]) []:=by
 unfold nbV nbE
 rcases bcase (mayC y m d)with h|h
 ·rw[if_pos h,if_pos h];exact rNumber h
 ·rw[if_neg (by rw[h];decide),if_neg (by rw[h];decide)];exact rNumber_bad h
theorem mv_bad {n k:Int} {eom:Bool} (h:cE n≠0):mv n k eom=(0,3):=mv_no (fun c=>h (cE_0.2 c.1))
theorem mv_in {n k y m d:Int} {eom:Bool} (hn:isDay n=true) (h1:1≤m) (h2:m≤12) (hM:mIdx n+k=12*y+m-1) (hy:1≤y) (hy2:y≤9999)
  (hd:d=if(eom&&lastB n)=true then len y m else if cD n≤len y m then cD n else len y m):mv n k eom=(nbV y m d,nbE y m d):=by
 have e1:(mIdx n+k)/12=y:=by omega
 have e2:(mIdx n+k)%12=m-1:=by omega
 have e3:mLn (mIdx n+k)=len y m:=by unfold mLn;rw[e1,e2,show m-1+1=m by omega]
 have ht:=tgt_ok hn eom (mIdx n+k)
 have e4:tgt n eom (mIdx n+k)=d:=by unfold tgt;rw[e3];exact hd.symm
 rw[mv_ok ⟨hn,by omega,by omega⟩,e4]
 rw[e4]at ht
 have hm:=may_month (m:=mIdx n+k) (by omega) (by omega) ht.1 ht.2
 have hb:=numb_month (mIdx n+k) d
 rw[e1,e2,show m-1+1=m by omega]at hm hb
 unfold nbV nbE
 rw[if_pos hm,if_pos hm,hb]
theorem last_eq {n:Int} (hn:isDay n=true):((cY n==cY n)&&((cM n==cM n)&&((cD n==len (cY n) (cM n))&&true)))=lastB n:=by
 unfold lastB;rw[hn];simp
theorem mn_le (a b:Int):mnI a b=if a≤b then a else b:=by
 unfold mnI;by_cases h:b<a
 ·rw[if_pos h,if_neg (by omega)]
 ·rw[if_neg h,if_pos (by omega)]
theorem cE_3 {n:Int} (h:cE n≠0):cE n=3:=by unfold cE at h⊢;split at h<;>simp_all
theorem cMove (a1 a2:Int) (a3:Bool):
  S 140 [I a1,I a2,B a3] [] (.tup [I (mv a1 a2 a3).1,I (mv a1 a2 a3).2]) []:=by
 refine SCall.st fun X hX=> ?_
 refine hX.go [i_,c_ [] (cOfT a1)] ?_
 by_cases h0:(cE a1)=0
 ·have hn:=cE_0.1 h0
  obtain⟨b1,b2, -, -, -⟩:=day_idx hn
  obtain⟨-,c1,c2,c3,c4,c5,c6, -, -⟩:=civ_ok hn
  refine hX.go [f_ (bne_eq_false_iff_eq.2 h0),i_,i_] ?_
  by_cases h1:a2<(-119988)
  ·exact(hX.to (res':= .tup [I 0,I 3]) (by rw[mv_no (fun⟨_,c1,c2⟩=>by omega)])).e [n_ 3 (t_ (dt h1)),t_ rt,t_ rt]
  ·refine hX.go [n_ 3 (f_ (df h1))] ?_
   by_cases h2:a2>119988
   ·exact(hX.to (res':= .tup [I 0,I 3]) (by rw[mv_no (fun⟨_,c1,c2⟩=>by omega)])).e [t_ (dt h2),t_ rt]
   ·have h3:Ir (12*(cY a1)):=by simp only[Ir,InR,mIdx]at*;omega
    have h4:Ir ((12*(cY a1))+(cM a1)):=by simp only[Ir,InR,mIdx]at*;omega
    have h5:Ir (((12*(cY a1))+(cM a1))-1):=by simp only[Ir,InR,mIdx]at*;omega
    have h6:Ir (mIdx a1+a2):=by simp only[Ir,InR,mIdx]at*;omega
    refine hX.go [f_ (df h2),q_ h3,q_ h4,q_ h5,q_ h6] ?_
    by_cases h7:(mIdx a1+a2)<12
    ·exact(hX.to (res':= .tup [I 0,I 3]) (by rw[mv_no (fun⟨_,c1,c2⟩=>by omega)])).e [n_ 3 (t_ (dt h7)),t_ rt,t_ rt]
    ·refine hX.go [n_ 3 (f_ (df h7))] ?_
     by_cases h8:(mIdx a1+a2)≥120000
     ·exact(hX.to (res':= .tup [I 0,I 3]) (by rw[mv_no (fun⟨_,c1,c2⟩=>by omega)])).e [t_ (dt h8),t_ rt]
     ·have h9:(0:Int)≤(mIdx a1+a2):=by omega
      have h10:Ir ((mIdx a1+a2)/12):=by simp only[Ir,InR,mIdx]at*;omega
      have h11:Ir (((mIdx a1+a2)%12)+1):=by simp only[Ir,InR,mIdx]at*;omega
      have h12:(0:Int)≤((mIdx a1+a2)/12):=by omega
      refine hX.go [f_ (df h8),q_ h9,q_ (show(0:Int)<12 from by decide),q_ h10,q_ h9,q_ (show(0:Int)<12 from by decide),q_ h11,d_ 5,c_ [] (show S 179 [.agg [I ((mIdx a1+a2)/12),I (((mIdx a1+a2)%12)+1),I (cD a1)]] [] (.agg [I ((mIdx a1+a2)/12),I (((mIdx a1+a2)%12)+1),I (len ((mIdx a1+a2)/12) (((mIdx a1+a2)%12)+1))]) []from mEnd h12),f_ rf] ?_
      rcases bcase a3 with h13|h13
      ·refine hX.go [d_ 5,n_ 3 (t_ h13),c_ [] (show S 179 [.agg [I (cY a1),I (cM a1),I (cD a1)]] [] (.agg [I (cY a1),I (cM a1),I (len (cY a1) (cM a1))]) []from mEnd (cY_nn _)),t_ h13,t_ h13] ?_
       rcases bcase (((cY a1)==(cY a1))&&(((cM a1)==(cM a1))&&(((cD a1)==(len (cY a1) (cM a1)))&&true)))with h14|h14
       ·refine(hX.to (res':= .tup [I (nbV ((mIdx a1+a2)/12) ((mIdx a1+a2)%12+1) (len ((mIdx a1+a2)/12) (((mIdx a1+a2)%12)+1))),I (nbE ((mIdx a1+a2)/12) ((mIdx a1+a2)%12+1) (len ((mIdx a1+a2)/12) (((mIdx a1+a2)%12)+1)))]) (by rw[mv_in (y:=(mIdx a1+a2)/12) (m:=(mIdx a1+a2)%12+1) (d:=(len ((mIdx a1+a2)/12) (((mIdx a1+a2)%12)+1))) hn (by omega) (by omega) (by omega) (by omega) (by omega) (by rw[last_eq hn]at h14;rw[if_pos (by rw[h13,h14];rfl)])])).e [t_ h14,c_ [] (show S 179 [.agg [I ((mIdx a1+a2)/12),I (((mIdx a1+a2)%12)+1),I (mnI (cD a1) (len ((mIdx a1+a2)/12) (((mIdx a1+a2)%12)+1)))]] [] (.agg [I ((mIdx a1+a2)/12),I (((mIdx a1+a2)%12)+1),I (len ((mIdx a1+a2)/12) (((mIdx a1+a2)%12)+1))]) []from mEnd h12),c_ [] (cNumberT ((mIdx a1+a2)/12) (((mIdx a1+a2)%12)+1) (len ((mIdx a1+a2)/12) (((mIdx a1+a2)%12)+1)))]
       ·refine(hX.to (res':= .tup [I (nbV ((mIdx a1+a2)/12) ((mIdx a1+a2)%12+1) (mnI (cD a1) (len ((mIdx a1+a2)/12) (((mIdx a1+a2)%12)+1)))),I (nbE ((mIdx a1+a2)/12) ((mIdx a1+a2)%12+1) (mnI (cD a1) (len ((mIdx a1+a2)/12) (((mIdx a1+a2)%12)+1))))]) (by rw[mv_in (y:=(mIdx a1+a2)/12) (m:=(mIdx a1+a2)%12+1) (d:=(mnI (cD a1) (len ((mIdx a1+a2)/12) (((mIdx a1+a2)%12)+1)))) hn (by omega) (by omega) (by omega) (by omega) (by omega) (by rw[last_eq hn]at h14;rw[if_neg (by rw[h13,h14];decide)];exact mn_le _ _)])).e [f_ h14,c_ [] (cNumberT ((mIdx a1+a2)/12) (((mIdx a1+a2)%12)+1) (mnI (cD a1) (len ((mIdx a1+a2)/12) (((mIdx a1+a2)%12)+1))))]
      ·refine(hX.to (res':= .tup [I (nbV ((mIdx a1+a2)/12) ((mIdx a1+a2)%12+1) (mnI (cD a1) (len ((mIdx a1+a2)/12) (((mIdx a1+a2)%12)+1)))),I (nbE ((mIdx a1+a2)/12) ((mIdx a1+a2)%12+1) (mnI (cD a1) (len ((mIdx a1+a2)/12) (((mIdx a1+a2)%12)+1))))]) (by rw[mv_in (y:=(mIdx a1+a2)/12) (m:=(mIdx a1+a2)%12+1) (d:=(mnI (cD a1) (len ((mIdx a1+a2)/12) (((mIdx a1+a2)%12)+1)))) hn (by omega) (by omega) (by omega) (by omega) (by omega) (by rw[if_neg (by rw[h13,Bool.false_and];decide)];exact mn_le _ _)])).e [d_ 5,n_ 5 (f_ h13),f_ rf,c_ [] (cNumberT ((mIdx a1+a2)/12) (((mIdx a1+a2)%12)+1) (mnI (cD a1) (len ((mIdx a1+a2)/12) (((mIdx a1+a2)%12)+1))))]
 ·exact(hX.to (res':= .tup [I 0,I (cE a1)]) (by rw[mv_bad h0];show _=SV.tup [I 0,I (cE a1)];rw[cE_3 h0])).e [t_ (bne_iff_ne.2 h0)]
end Go.Proofs.YtelidogcomffkaaGreatDoor
