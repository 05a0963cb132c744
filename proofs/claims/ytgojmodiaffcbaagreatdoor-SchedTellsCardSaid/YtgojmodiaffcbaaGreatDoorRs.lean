/-
Plans (chapter 17): the reference.
-/
import Derived.Test.YtgojmodiaffcbaaGreatDoorSp
import Derived.Test.YtgojmodiaffcbaaGreatDoorProg
import Derived.KernelRfl
set_option linter.unusedSectionVars false
set_option linter.unusedSimpArgs false
set_option linter.unusedVariables false
set_option maxRecDepth 100000
namespace Go.Proofs.YtgojmodiaffcbaaGreatDoor
open Go Go.Sx
variable [EnvT]
noncomputable def rodE (C:Cl) (g:Nat→Int) (k:Int) (n:Nat):Int:=fstE (fun i=>(toV C (g i) k).2) n
noncomputable def rodN (C:Cl) (g:Nat→Int) (k:Int) (n:Nat):Nat:=if rodE C g k n=0 then n else 0
noncomputable def refRd_h0 (C:Cl) (n:Nat) (g:Nat→Int) (a1:Int) (x1:Int) (n4_:Nat) (g1041:Nat→Int):SC:=
 ⟨[⟨32,slo 36 [(1, .sl 2 n),(2,I a1),(3, .ptr 3 0),(8, .sl 4 n4_),(9,I x1)],[.code (bodyAt Tryz.f32 [1,1,0,1,0,0]), .inLoop (bodyAt Tryz.f32 [1,1,0,1,0,0]), .inBlock 0, .code (bodyAt Tryz.f32 [1,1,1])],{}⟩],[some (.row false 83 C.nr 8 (fun i=>[I ((C.R i).kind),I ((C.R i).mon),I ((C.R i).day),I ((C.R i).k),I ((C.R i).off),I ((C.R i).sh),I ((C.R i).fr),I ((C.R i).to)])),some (.row false 3 C.nd 1 (fun i=>[I (C.D i)])),ri n g,some (.box true [B (C.off 0),B (C.off 1),B (C.off 2),B (C.off 3),B (C.off 4),B (C.off 5),B (C.off 6), .sl 0 C.nr, .sl 1 C.nd]),ro n4_ g1041]⟩
theorem refRd_w0 {X:Cx} {C:Cl} {n:Nat} {g:Nat→Int} {a1:Int} {res:SV} {new:List (Option Vw)} (hX:Fi X 32 [some (.row false 83 C.nr 8 (fun i=>[I ((C.R i).kind),I ((C.R i).mon),I ((C.R i).day),I ((C.R i).k),I ((C.R i).off),I ((C.R i).sh),I ((C.R i).fr),I ((C.R i).to)])),some (.row false 3 C.nd 1 (fun i=>[I (C.D i)])),ri n g] (res) new) (H:Ok X (refRd_h0 C n g a1 0 0 (fun _=>default))):
  Ok X (entry Tryz.prog 32 [.agg [B (C.off 0),B (C.off 1),B (C.off 2),B (C.off 3),B (C.off 4),B (C.off 5),B (C.off 6), .sl 0 C.nr, .sl 1 C.nd], .sl 2 n,I a1] [some (.row false 83 C.nr 8 (fun i=>[I ((C.R i).kind),I ((C.R i).mon),I ((C.R i).day),I ((C.R i).k),I ((C.R i).off),I ((C.R i).sh),I ((C.R i).fr),I ((C.R i).to)])),some (.row false 3 C.nd 1 (fun i=>[I (C.D i)])),ri n g]):=by
 have k:=H
 exact hX.h 17 [] [.old 0, .old 1, .old 2, .old 3, .nil 1] k
theorem refRd_w1 {X:Cx} {C:Cl} {n:Nat} {g:Nat→Int} {a1 x1:Int} {n4_:Nat} {g1041:Nat→Int} {res:SV} {new:List (Option Vw)} (hX:Fi X 32 [some (.row false 83 C.nr 8 (fun i=>[I ((C.R i).kind),I ((C.R i).mon),I ((C.R i).day),I ((C.R i).k),I ((C.R i).off),I ((C.R i).sh),I ((C.R i).fr),I ((C.R i).to)])),some (.row false 3 C.nd 1 (fun i=>[I (C.D i)])),ri n g] (res) new) (H:(x1<((n:Nat):Int)→((0:Int)≤x1∧x1<((n:Nat):Int))∧CalOk C∧NDay (g x1.toNat)∧(((toV C (g x1.toNat) a1).2)≠0→(((.tup [.val (.slice none 0 0),I ((toV C (g x1.toNat) a1).2)]):SV)=res)∧sameHp [] new)∧(((toV C (g x1.toNat) a1).2)=0→ ∃ q5002:Nat→Int,(∀ k,k<(n4_+1)→q5002 k=if k<n4_ then(g1041 k)else((toV C (g x1.toNat) a1).1))∧(n4_+1)*8≤140737488355328∧Ir (x1+1)∧Ok X (refRd_h0 C n g a1 (x1+1) (n4_+1) q5002)))∧(¬x1<((n:Nat):Int)→(((.tup [.sl 3 n4_,I 0]):SV)=res)∧sameHp [ro n4_ g1041] new)):
  Ok X (refRd_h0 C n g a1 x1 n4_ g1041):=by
 obtain⟨L0,K0⟩:=H
 by_cases h0:x1<((n:Nat):Int)
 ·obtain⟨h1,h2,h3,L4,K4⟩:=L0 h0
  refine hX.go [t_ (dt h0),q_ h1,q_ (re n),q_ h1,d_ 11,c_ [0,1] (show S 15 [.agg [B (C.off 0),B (C.off 1),B (C.off 2),B (C.off 3),B (C.off 4),B (C.off 5),B (C.off 6), .sl 0 C.nr, .sl 1 C.nd],I (g x1.toNat),I a1] (calH C) (.tup [I ((toV C (g x1.toNat) a1).1),I ((toV C (g x1.toNat) a1).2)]) []from rTo h2 h3)] ?_
  by_cases h4:((toV C (g x1.toNat) a1).2)=0
  ·obtain⟨q5002,h5,h6,h7,k⟩:=K4 h4
   exact hX.h 16 [f_ (bne_eq_false_iff_eq.2 h4),q_ (show ∀ k,k<1→(fun i=>[I ((toV C (g x1.toNat) a1).1)]) k=[[I ((toV C (g x1.toNat) a1).1)]].getD k []from by intro k hk;match k,hk with|0,_=>rfl|k+1,hk=>omega),q_ (re 1),q_ (re n4_),q_ h6,q_ (show ∀ k,k<n4_+1→(fun i=>[I (q5002 i)]) k=if k<n4_ then(fun i=>[I (g1041 i)]) k else(fun i=>[I ((toV C (g x1.toNat) a1).1)]) (k-n4_)from fun k hk=>by
   have e0:=h5 k hk
   by_cases c:k<n4_
   ·rw[if_pos c]at e0⊢;simp only[e0]
   ·rw[if_neg c]at e0⊢;simp only[e0]),q_ h7,h_ [.row (fun i=>[I ((toV C (g x1.toNat) a1).1)]), .row (fun i=>[I (q5002 i)])]] [.old 0, .old 1, .old 2, .old 3, .old 6] k
  ·have HE:=L4 h4
   obtain⟨HE,HN⟩:=HE
   exact((hX.to HE.symm).same HN).e [t_ (bne_iff_ne.2 h4)]
 ·have HE:=K0 h0
  obtain⟨HE,HN⟩:=HE
  exact((hX.to HE.symm).same HN).e [f_ (df h0)] [4]
theorem refRd_l {X:Cx} {C:Cl} {n:Nat} {g:Nat→Int} {k:Int} (hX:Fi X 32 (calH C++[ri n g]) (.tup [.sl 3 (rodN C g k n),I (rodE C g k n)]) [ro (rodN C g k n) (fun i=>(toV C (g i) k).1)])
  (hC:CalOk C) (hn:n≤10000) (hd: ∀ i,i<n→isDay (g i)=true): ∀ (f i:Nat),i+f=n→(∀ j,j<i→(toV C (g j) k).2=0)→ ∀ (q:Nat→Int),(i=0∨q=(fun i=>(toV C (g i) k).1))→Ok X (refRd_h0 C n g k (i:Int) i q)
 |0,i,hi,hj,q,hq=>by
  have e:rodE C g k n=0:=fstE_no (fun j h=>hj j (by omega))
  have eN:rodN C g k n=i:=by unfold rodN;rw[if_pos e];omega
  refine refRd_w1 hX ⟨fun c=>absurd c (by omega),fun _=>⟨by rw[e,eN], ?_⟩⟩
  rw[eN]
  refine⟨⟨rfl,rfl,rfl,rfl,fun z hz=> ?_⟩,trivial⟩
  rcases hq with hq|rfl
  ·omega
  ·rfl
 |f+1,i,hi,hj,q,hq=>by
  have ti:((i:Int)).toNat=i:=Int.toNat_natCast _
  by_cases c:(toV C (g i) k).2=0
  ·refine refRd_w1 hX ⟨fun _=> ?_,fun c=>absurd (show(i:Int)<((n:Nat):Int)by omega) c⟩
   rw[ti]
   refine⟨by omega,hC,NDay.of (hd i (by omega)),fun c'=>absurd c c',fun _=>⟨fun z=>(toV C (g z) k).1,fun z hz=> ?_,by omega,irT (by omega), ?_⟩⟩
   ·by_cases d:z<i
    ·rw[if_pos d]
     rcases hq with hq|rfl
     ·omega
     ·rfl
    ·rw[if_neg d,show z=i by omega]
   ·exact refRd_l hX hC hn hd f (i+1) (by omega) (fun j h=>by
     rcases Nat.lt_or_ge j i with d|d
     ·exact hj j d
     ·rw[show j=i by omega];exact c) _ (.inr rfl)
  ·have e:rodE C g k n=(toV C (g i) k).2:=fstE_at (f:=fun i=>(toV C (g i) k).2) hj c (by omega)
   have eN:rodN C g k n=0:=by unfold rodN;rw[if_neg (by rw[e];exact c)]
   rw[eN,e]at hX
   have h0:=IsFin.nil1 (new:=[]) (res':= .tup [.val (.slice none 0 0),I (toV C (g i) k).2]) hX (fun θ' h=>by have h:θ' 3=_:=h;simp only[den,denL,h])
   refine refRd_w1 h0 ⟨fun _=> ?_,fun c=>absurd (show(i:Int)<((n:Nat):Int)by omega) c⟩
   rw[ti]
   exact⟨by omega,hC,NDay.of (hd i (by omega)),fun _=>⟨rfl,trivial⟩,fun c'=>absurd c' c⟩
theorem rRolled {C:Cl} {n:Nat} {g:Nat→Int} {k:Int} (hC:CalOk C) (hn:n≤10000) (hd: ∀ i,i<n→isDay (g i)=true):
  S 32 [calL C, .sl 2 n,I k] (calH C++[ri n g]) (.tup [.sl 3 (rodN C g k n),I (rodE C g k n)]) [ro (rodN C g k n) (fun i=>(toV C (g i) k).1)]:=
 SCall.st fun X hX=>refRd_w0 hX (refRd_l hX hC hn hd n 0 (by omega) (fun j h=>absurd h (Nat.not_lt_zero _)) _ (.inl rfl))
theorem refPartN_w {a1 a2 a3:Int} {a4:Bool} {a5 a6:Int} {res:SV} (H:(a1=0→(RT (r7US a2 a3 a4):SV)=res)∧(a1≠0→(a1=1→(RT (r7E a2 a3):SV)=res)∧(a1≠1→(a1=2→(RT (r7Isda a2 a3 a5):SV)=res)∧(a1≠2→(a1=3→(RT (r8 a2 a3 360):SV)=res)∧(a1≠3→(a1=4→(RT (r8 a2 a3 365):SV)=res)∧(a1≠4→(a1=5→(RT (r8Y a2 a3):SV)=res)∧(a1≠5→a1≠6∧((.tup [.agg [I 0,I 0],I 1]):SV)=res))))))):
  S 19 [I a1,I a2,I a3, .agg [B a4,I a5,I a6, .val (.slice none 0 0)]] [] (res) []:=by
 refine SCall.st fun X hX=> ?_
 obtain⟨L0,K0⟩:=H
 by_cases h0:a1=0
 ·have HE:=L0 h0
  exact(hX.to HE.symm).e [t_ (beq_iff_eq.2 h0),c_ [] (show S 48 [I a2,I a3,B a4] [] (RT (r7US a2 a3 a4)) []from ref7US _ _ _)]
 ·obtain⟨L1,K1⟩:=K0 h0
  refine hX.go [f_ (beq_eq_false_iff_ne.2 h0)] ?_
  by_cases h1:a1=1
  ·have HE:=L1 h1
   exact(hX.to HE.symm).e [t_ (beq_iff_eq.2 h1),c_ [] (show S 49 [I a2,I a3] [] (RT (r7E a2 a3)) []from ref7E _ _)]
  ·obtain⟨L2,K2⟩:=K1 h1
   refine hX.go [f_ (beq_eq_false_iff_ne.2 h1)] ?_
   by_cases h2:a1=2
   ·have HE:=L2 h2
    exact(hX.to HE.symm).e [t_ (beq_iff_eq.2 h2),c_ [] (show S 50 [I a2,I a3,I a5] [] (RT (r7Isda a2 a3 a5)) []from ref7Isda _ _ _)]
   ·obtain⟨L3,K3⟩:=K2 h2
    refine hX.go [f_ (beq_eq_false_iff_ne.2 h2)] ?_
    by_cases h3:a1=3
    ·have HE:=L3 h3
     exact(hX.to HE.symm).e [t_ (beq_iff_eq.2 h3),c_ [] (ref8By360 a2 a3)]
    ·obtain⟨L4,K4⟩:=K3 h3
     refine hX.go [f_ (beq_eq_false_iff_ne.2 h3)] ?_
     by_cases h4:a1=4
     ·have HE:=L4 h4
      exact(hX.to HE.symm).e [t_ (beq_iff_eq.2 h4),c_ [] (ref8By365 a2 a3)]
     ·obtain⟨L5,K5⟩:=K4 h4
      refine hX.go [f_ (beq_eq_false_iff_ne.2 h4)] ?_
      by_cases h5:a1=5
      ·have HE:=L5 h5
       exact(hX.to HE.symm).e [t_ (beq_iff_eq.2 h5),c_ [] (ref8ByYears a2 a3)]
      ·obtain⟨h6,HE⟩:=K5 h5
       exact(hX.to HE.symm).e [f_ (beq_eq_false_iff_ne.2 h5),f_ (beq_eq_false_iff_ne.2 h6)]
theorem partC_n {k a b:Int} {eom:Bool} {e f:Int} {n:Nat} {g:Nat→Int} (h:k≠6):partC k a b eom e f n g=partC k a b eom e f 0 (fun _=>0):=by unfold partC;rw[if_neg h,if_neg h]
theorem rPartN {k a b:Int} {eom:Bool} {e f:Int} (h:k≠6):S 19 [I k,I a,I b, .agg [B eom,I e,I f, .val (.slice none 0 0)]] [] (RT (partC k a b eom e f 0 (fun _=>0))) []:=
 refPartN_w ⟨fun h0=>by subst h0;rfl,fun h0=>⟨fun h1=>by subst h1;rfl,fun h1=>⟨fun h2=>by subst h2;rfl,fun h2=>⟨fun h3=>by subst h3;rfl,fun h3=>⟨fun h4=>by subst h4;rfl,fun h4=>⟨fun h5=>by subst h5;rfl,fun h5=>⟨h,by simp only[partC,h0,h1,h2,h3,h4,h5,h,if_true,if_false]⟩⟩⟩⟩⟩⟩⟩
noncomputable def refOf_h0 (a1:Int) (a2:Int) (a3:Int) (a4:Int) (a5:Int) (a6:Int) (a7:Int) (a8:Bool) (a9:Bool) (a10:Bool) (a11:Int) (C:Cl) (x1:Int) (n11_:Nat) (g1111:Nat→Int) (g1112:Nat→Int):SC:=
 ⟨[⟨12,slo 111 [(2, .ptr 2 0),(4, .ptr 4 0),(8, .sl 6 (rodN C (fun i=>dV a5 a6 a7 a9 a8 a10 i) a11 (dN a1 a2 a3 a4 a5 a6 a7 a8 a9 a10 a11))),(10, .ptr 7 0),(15, .ptr 10 0),(16,I x1)],[.code (bodyAt Tryz.f12 [1,1,1,1,1,1,1,1,0,1,0,0]), .inLoop (bodyAt Tryz.f12 [1,1,1,1,1,1,1,1,0,1,0,0]), .inBlock 0, .code (bodyAt Tryz.f12 [1,1,1,1,1,1,1,1,1])],{}⟩],[some (.row false 83 C.nr 8 (fun i=>[I ((C.R i).kind),I ((C.R i).mon),I ((C.R i).day),I ((C.R i).k),I ((C.R i).off),I ((C.R i).sh),I ((C.R i).fr),I ((C.R i).to)])),some (.row false 3 C.nd 1 (fun i=>[I (C.D i)])),some (.box true [I a1,I a2,I a3,I a4,I a5,I a6,I a7,B a8,B a9,B a10,I a11]),none,some (.box true [.val (.slice none 0 0), .val (.slice none 0 0), .val (.slice none 0 0),B false,I 0,I 0, .val (.slice none 0 0)]),some (.row true 3 (dN a1 a2 a3 a4 a5 a6 a7 a8 a9 a10 a11) 1 (fun i=>[I (dV a5 a6 a7 a9 a8 a10 i)])),some (.row true 3 (rodN C (fun i=>dV a5 a6 a7 a9 a8 a10 i) a11 (dN a1 a2 a3 a4 a5 a6 a7 a8 a9 a10 a11)) 1 (fun i=>[I ((toV C ((fun i=>dV a5 a6 a7 a9 a8 a10 i) i) a11).1)])),some (.box true [B a10,I ((toV C ((fun i=>dV a5 a6 a7 a9 a8 a10 i) (((((rodN C (fun i=>dV a5 a6 a7 a9 a8 a10 i) a11 (dN a1 a2 a3 a4 a5 a6 a7 a8 a9 a10 a11)):Nat):Int)-1).toNat)) a11).1),I (frq a7), .sl 9 (rodN C (fun i=>gcV a5 a6 a7 a8 a10 i) a11 (gcN a1 a2 a3 a4 a5 a6 a7 a8 a10 a11))]),none,some (.row true 3 (rodN C (fun i=>gcV a5 a6 a7 a8 a10 i) a11 (gcN a1 a2 a3 a4 a5 a6 a7 a8 a10 a11)) 1 (fun i=>[I ((toV C ((fun i=>gcV a5 a6 a7 a8 a10 i) i) a11).1)])),some (.box true [.sl 5 (dN a1 a2 a3 a4 a5 a6 a7 a8 a9 a10 a11), .sl 6 (rodN C (fun i=>dV a5 a6 a7 a9 a8 a10 i) a11 (dN a1 a2 a3 a4 a5 a6 a7 a8 a9 a10 a11)), .sl 11 n11_,B a10,I ((toV C ((fun i=>dV a5 a6 a7 a9 a8 a10 i) (((((rodN C (fun i=>dV a5 a6 a7 a9 a8 a10 i) a11 (dN a1 a2 a3 a4 a5 a6 a7 a8 a9 a10 a11)):Nat):Int)-1).toNat)) a11).1),I (frq a7), .sl 9 (rodN C (fun i=>gcV a5 a6 a7 a8 a10 i) a11 (gcN a1 a2 a3 a4 a5 a6 a7 a8 a10 a11))]),some (.row true 48 n11_ 2 (fun i=>[I (g1111 i),I (g1112 i)]))]⟩
noncomputable def refOf_h1 (a1:Int) (a2:Int) (a3:Int) (a4:Int) (a5:Int) (a6:Int) (a7:Int) (a8:Bool) (a9:Bool) (a10:Bool) (a11:Int) (C:Cl) (x1:Int) (n9_:Nat) (g1091:Nat→Int) (g1092:Nat→Int):SC:=
 ⟨[⟨12,slo 111 [(2, .ptr 2 0),(4, .ptr 4 0),(8, .sl 6 (rodN C (fun i=>dV a5 a6 a7 a9 a8 a10 i) a11 (dN a1 a2 a3 a4 a5 a6 a7 a8 a9 a10 a11))),(10, .ptr 7 0),(15, .ptr 8 0),(16,I x1)],[.code (bodyAt Tryz.f12 [1,1,1,1,1,1,1,1,0,1,0,0]), .inLoop (bodyAt Tryz.f12 [1,1,1,1,1,1,1,1,0,1,0,0]), .inBlock 0, .code (bodyAt Tryz.f12 [1,1,1,1,1,1,1,1,1])],{}⟩],[some (.row false 83 C.nr 8 (fun i=>[I ((C.R i).kind),I ((C.R i).mon),I ((C.R i).day),I ((C.R i).k),I ((C.R i).off),I ((C.R i).sh),I ((C.R i).fr),I ((C.R i).to)])),some (.row false 3 C.nd 1 (fun i=>[I (C.D i)])),some (.box true [I a1,I a2,I a3,I a4,I a5,I a6,I a7,B a8,B a9,B a10,I a11]),none,some (.box true [.val (.slice none 0 0), .val (.slice none 0 0), .val (.slice none 0 0),B false,I 0,I 0, .val (.slice none 0 0)]),some (.row true 3 (dN a1 a2 a3 a4 a5 a6 a7 a8 a9 a10 a11) 1 (fun i=>[I (dV a5 a6 a7 a9 a8 a10 i)])),some (.row true 3 (rodN C (fun i=>dV a5 a6 a7 a9 a8 a10 i) a11 (dN a1 a2 a3 a4 a5 a6 a7 a8 a9 a10 a11)) 1 (fun i=>[I ((toV C ((fun i=>dV a5 a6 a7 a9 a8 a10 i) i) a11).1)])),some (.box true [B a10,I ((toV C ((fun i=>dV a5 a6 a7 a9 a8 a10 i) (((((rodN C (fun i=>dV a5 a6 a7 a9 a8 a10 i) a11 (dN a1 a2 a3 a4 a5 a6 a7 a8 a9 a10 a11)):Nat):Int)-1).toNat)) a11).1),I (frq a7), .val (.slice none 0 0)]),some (.box true [.sl 5 (dN a1 a2 a3 a4 a5 a6 a7 a8 a9 a10 a11), .sl 6 (rodN C (fun i=>dV a5 a6 a7 a9 a8 a10 i) a11 (dN a1 a2 a3 a4 a5 a6 a7 a8 a9 a10 a11)), .sl 9 n9_,B a10,I ((toV C ((fun i=>dV a5 a6 a7 a9 a8 a10 i) (((((rodN C (fun i=>dV a5 a6 a7 a9 a8 a10 i) a11 (dN a1 a2 a3 a4 a5 a6 a7 a8 a9 a10 a11)):Nat):Int)-1).toNat)) a11).1),I (frq a7), .val (.slice none 0 0)]),some (.row true 48 n9_ 2 (fun i=>[I (g1091 i),I (g1092 i)]))]⟩
noncomputable def refOf_h2 (a1:Int) (a2:Int) (a3:Int) (a4:Int) (a5:Int) (a6:Int) (a7:Int) (a8:Bool) (a9:Bool) (a10:Bool) (a11:Int) (C:Cl) (x1:Int) (n12_:Nat) (g1121:Nat→Int) (g1122:Nat→Int):SC:=
 ⟨[⟨12,slo 111 [(2, .ptr 2 0),(4, .ptr 4 0),(8, .sl 6 (rodN C (fun i=>dV a5 a6 a7 a9 a8 a10 i) a11 (dN a1 a2 a3 a4 a5 a6 a7 a8 a9 a10 a11))),(10, .ptr 7 0),(15, .ptr 8 0),(16,I x1)],[.code (bodyAt Tryz.f12 [1,1,1,1,1,1,1,1,0,1,0,0]), .inLoop (bodyAt Tryz.f12 [1,1,1,1,1,1,1,1,0,1,0,0]), .inBlock 0, .code (bodyAt Tryz.f12 [1,1,1,1,1,1,1,1,1])],{}⟩],[some (.row false 83 C.nr 8 (fun i=>[I ((C.R i).kind),I ((C.R i).mon),I ((C.R i).day),I ((C.R i).k),I ((C.R i).off),I ((C.R i).sh),I ((C.R i).fr),I ((C.R i).to)])),some (.row false 3 C.nd 1 (fun i=>[I (C.D i)])),some (.box true [I a1,I a2,I a3,I a4,I a5,I a6,I a7,B a8,B a9,B a10,I a11]),none,some (.box true [.val (.slice none 0 0), .val (.slice none 0 0), .val (.slice none 0 0),B false,I 0,I 0, .val (.slice none 0 0)]),some (.row true 3 (dN a1 a2 a3 a4 a5 a6 a7 a8 a9 a10 a11) 1 (fun i=>[I (dV a5 a6 a7 a9 a8 a10 i)])),some (.row true 3 (rodN C (fun i=>dV a5 a6 a7 a9 a8 a10 i) a11 (dN a1 a2 a3 a4 a5 a6 a7 a8 a9 a10 a11)) 1 (fun i=>[I ((toV C ((fun i=>dV a5 a6 a7 a9 a8 a10 i) i) a11).1)])),some (.box true [B a10,I ((toV C ((fun i=>dV a5 a6 a7 a9 a8 a10 i) (((((rodN C (fun i=>dV a5 a6 a7 a9 a8 a10 i) a11 (dN a1 a2 a3 a4 a5 a6 a7 a8 a9 a10 a11)):Nat):Int)-1).toNat)) a11).1),I (frq a7), .val (.slice none 0 0)]),some (.box true [.sl 5 (dN a1 a2 a3 a4 a5 a6 a7 a8 a9 a10 a11), .sl 6 (rodN C (fun i=>dV a5 a6 a7 a9 a8 a10 i) a11 (dN a1 a2 a3 a4 a5 a6 a7 a8 a9 a10 a11)), .sl 12 n12_,B a10,I ((toV C ((fun i=>dV a5 a6 a7 a9 a8 a10 i) (((((rodN C (fun i=>dV a5 a6 a7 a9 a8 a10 i) a11 (dN a1 a2 a3 a4 a5 a6 a7 a8 a9 a10 a11)):Nat):Int)-1).toNat)) a11).1),I (frq a7), .val (.slice none 0 0)]),none,none,none,some (.row true 48 n12_ 2 (fun i=>[I (g1121 i),I (g1122 i)]))]⟩
theorem refOf_w0 {X:Cx} {a1 a2 a3 a4 a5 a6 a7:Int} {a8 a9 a10:Bool} {a11:Int} {C:Cl} {res:SV} {new:List (Option Vw)} (hX:Fi X 12 (calH C) (res) new) (H:(chk a1 a2 a3 a4 a5 a6 a7 a11=0→a6-a5≤6200*a7)∧((chk a1 a2 a3 a4 a5 a6 a7 a11)≠0→(((.tup [.agg [.val (.slice none 0 0), .val (.slice none 0 0), .val (.slice none 0 0),B false,I 0,I 0, .val (.slice none 0 0)],I (chk a1 a2 a3 a4 a5 a6 a7 a11)]):SV)=res)∧sameHp [] new)∧((chk a1 a2 a3 a4 a5 a6 a7 a11)=0→CalOk C∧(dN a1 a2 a3 a4 a5 a6 a7 a8 a9 a10 a11)≤10000∧(∀ i,i<(dN a1 a2 a3 a4 a5 a6 a7 a8 a9 a10 a11)→isDay ((fun i=>dV a5 a6 a7 a9 a8 a10 i) i)=true)∧((rodE C (fun i=>dV a5 a6 a7 a9 a8 a10 i) a11 (dN a1 a2 a3 a4 a5 a6 a7 a8 a9 a10 a11))≠0→(((.tup [.agg [.val (.slice none 0 0), .val (.slice none 0 0), .val (.slice none 0 0),B false,I 0,I 0, .val (.slice none 0 0)],I (rodE C (fun i=>dV a5 a6 a7 a9 a8 a10 i) a11 (dN a1 a2 a3 a4 a5 a6 a7 a8 a9 a10 a11))]):SV)=res)∧sameHp [] new)∧((rodE C (fun i=>dV a5 a6 a7 a9 a8 a10 i) a11 (dN a1 a2 a3 a4 a5 a6 a7 a8 a9 a10 a11))=0→Ir ((((rodN C (fun i=>dV a5 a6 a7 a9 a8 a10 i) a11 (dN a1 a2 a3 a4 a5 a6 a7 a8 a9 a10 a11)):Nat):Int)-1)∧((0:Int)≤((((rodN C (fun i=>dV a5 a6 a7 a9 a8 a10 i) a11 (dN a1 a2 a3 a4 a5 a6 a7 a8 a9 a10 a11)):Nat):Int)-1)∧((((rodN C (fun i=>dV a5 a6 a7 a9 a8 a10 i) a11 (dN a1 a2 a3 a4 a5 a6 a7 a8 a9 a10 a11)):Nat):Int)-1)<(((rodN C (fun i=>dV a5 a6 a7 a9 a8 a10 i) a11 (dN a1 a2 a3 a4 a5 a6 a7 a8 a9 a10 a11)):Nat):Int))∧(a4=6→(gcN a1 a2 a3 a4 a5 a6 a7 a8 a10 a11)≤10000∧(∀ i,i<(gcN a1 a2 a3 a4 a5 a6 a7 a8 a10 a11)→isDay ((fun i=>gcV a5 a6 a7 a8 a10 i) i)=true)∧((rodE C (fun i=>gcV a5 a6 a7 a8 a10 i) a11 (gcN a1 a2 a3 a4 a5 a6 a7 a8 a10 a11))≠0→(((.tup [.agg [.val (.slice none 0 0), .val (.slice none 0 0), .val (.slice none 0 0),B false,I 0,I 0, .val (.slice none 0 0)],I (rodE C (fun i=>gcV a5 a6 a7 a8 a10 i) a11 (gcN a1 a2 a3 a4 a5 a6 a7 a8 a10 a11))]):SV)=res)∧sameHp [] new)∧((rodE C (fun i=>gcV a5 a6 a7 a8 a10 i) a11 (gcN a1 a2 a3 a4 a5 a6 a7 a8 a10 a11))=0→Ok X (refOf_h0 a1 a2 a3 a4 a5 a6 a7 a8 a9 a10 a11 C 1 0 (fun _=>default) (fun _=>default))))∧(a4≠6→Ok X (refOf_h1 a1 a2 a3 a4 a5 a6 a7 a8 a9 a10 a11 C 1 0 (fun _=>default) (fun _=>default)))))):
  Ok X (entry Tryz.prog 12 [.agg [I a1,I a2,I a3,I a4,I a5,I a6,I a7,B a8,B a9,B a10,I a11], .agg [B (C.off 0),B (C.off 1),B (C.off 2),B (C.off 3),B (C.off 4),B (C.off 5),B (C.off 6), .sl 0 C.nr, .sl 1 C.nd]] (calH C)):=by
 obtain⟨h0,L1,K1⟩:=H
 refine hX.go [c_ [] (show S 31 [.agg [I a1,I a2,I a3,I a4,I a5,I a6,I a7,B a8,B a9,B a10,I a11]] [] (.tup [.sl 0 (dN a1 a2 a3 a4 a5 a6 a7 a8 a9 a10 a11),I (chk a1 a2 a3 a4 a5 a6 a7 a11)]) [some (.row true 3 (dN a1 a2 a3 a4 a5 a6 a7 a8 a9 a10 a11) 1 (fun i=>[I (dV a5 a6 a7 a9 a8 a10 i)]))]from rOf _ _ _ _ _ _ _ _ _ _ _ h0)] ?_
 by_cases h1:(chk a1 a2 a3 a4 a5 a6 a7 a11)=0
 ·obtain⟨h2,h3,h4,L5,K5⟩:=K1 h1
  refine hX.go [f_ (bne_eq_false_iff_eq.2 h1),c_ [0,1,5] (show S 32 [.agg [B (C.off 0),B (C.off 1),B (C.off 2),B (C.off 3),B (C.off 4),B (C.off 5),B (C.off 6), .sl 0 C.nr, .sl 1 C.nd], .sl 2 (dN a1 a2 a3 a4 a5 a6 a7 a8 a9 a10 a11),I a11] [some (.row false 83 C.nr 8 (fun i=>[I ((C.R i).kind),I ((C.R i).mon),I ((C.R i).day),I ((C.R i).k),I ((C.R i).off),I ((C.R i).sh),I ((C.R i).fr),I ((C.R i).to)])),some (.row false 3 C.nd 1 (fun i=>[I (C.D i)])),some (.row false 3 (dN a1 a2 a3 a4 a5 a6 a7 a8 a9 a10 a11) 1 (fun i=>[I (dV a5 a6 a7 a9 a8 a10 i)]))] (.tup [.sl 3 (rodN C (fun i=>dV a5 a6 a7 a9 a8 a10 i) a11 (dN a1 a2 a3 a4 a5 a6 a7 a8 a9 a10 a11)),I (rodE C (fun i=>dV a5 a6 a7 a9 a8 a10 i) a11 (dN a1 a2 a3 a4 a5 a6 a7 a8 a9 a10 a11))]) [some (.row true 3 (rodN C (fun i=>dV a5 a6 a7 a9 a8 a10 i) a11 (dN a1 a2 a3 a4 a5 a6 a7 a8 a9 a10 a11)) 1 (fun i=>[I ((toV C ((fun i=>dV a5 a6 a7 a9 a8 a10 i) i) a11).1)]))]from rRolled h2 h3 h4)] ?_
  by_cases h5:(rodE C (fun i=>dV a5 a6 a7 a9 a8 a10 i) a11 (dN a1 a2 a3 a4 a5 a6 a7 a8 a9 a10 a11))=0
  ·obtain⟨h6,h7,L8,K8⟩:=K5 h5
   refine hX.go [f_ (bne_eq_false_iff_eq.2 h5),q_ h6,q_ h7,q_ (show(rodN C (fun i=>dV a5 a6 a7 a9 a8 a10 i) a11 (dN a1 a2 a3 a4 a5 a6 a7 a8 a9 a10 a11))=(rodN C (fun i=>dV a5 a6 a7 a9 a8 a10 i) a11 (dN a1 a2 a3 a4 a5 a6 a7 a8 a9 a10 a11))from rfl),q_ h7,d_ 13,c_ [] (rFreq a7)] ?_
   by_cases h8:a4=6
   ·obtain⟨h9,h10,L11,K11⟩:=L8 h8
    refine hX.go [t_ (beq_iff_eq.2 h8),c_ [] (show S 34 [.agg [I a1,I a2,I a3,I a4,I a5,I a6,I a7,B a8,B a9,B a10,I a11]] [] (.tup [.sl 0 (gcN a1 a2 a3 a4 a5 a6 a7 a8 a10 a11),I (chk a1 a2 a3 a4 a5 a6 a7 a11)]) [some (.row true 3 (gcN a1 a2 a3 a4 a5 a6 a7 a8 a10 a11) 1 (fun i=>[I (gcV a5 a6 a7 a8 a10 i)]))]from rGrid _ _ _ _ _ _ _ _ _ _ _ h0),c_ [0,1,8] (show S 32 [.agg [B (C.off 0),B (C.off 1),B (C.off 2),B (C.off 3),B (C.off 4),B (C.off 5),B (C.off 6), .sl 0 C.nr, .sl 1 C.nd], .sl 2 (gcN a1 a2 a3 a4 a5 a6 a7 a8 a10 a11),I a11] [some (.row false 83 C.nr 8 (fun i=>[I ((C.R i).kind),I ((C.R i).mon),I ((C.R i).day),I ((C.R i).k),I ((C.R i).off),I ((C.R i).sh),I ((C.R i).fr),I ((C.R i).to)])),some (.row false 3 C.nd 1 (fun i=>[I (C.D i)])),some (.row false 3 (gcN a1 a2 a3 a4 a5 a6 a7 a8 a10 a11) 1 (fun i=>[I (gcV a5 a6 a7 a8 a10 i)]))] (.tup [.sl 3 (rodN C (fun i=>gcV a5 a6 a7 a8 a10 i) a11 (gcN a1 a2 a3 a4 a5 a6 a7 a8 a10 a11)),I (rodE C (fun i=>gcV a5 a6 a7 a8 a10 i) a11 (gcN a1 a2 a3 a4 a5 a6 a7 a8 a10 a11))]) [some (.row true 3 (rodN C (fun i=>gcV a5 a6 a7 a8 a10 i) a11 (gcN a1 a2 a3 a4 a5 a6 a7 a8 a10 a11)) 1 (fun i=>[I ((toV C ((fun i=>gcV a5 a6 a7 a8 a10 i) i) a11).1)]))]from rRolled h2 h9 h10)] ?_
    by_cases h11:(rodE C (fun i=>gcV a5 a6 a7 a8 a10 i) a11 (gcN a1 a2 a3 a4 a5 a6 a7 a8 a10 a11))=0
    ·have k:=K11 h11
     exact hX.h 23 [f_ (bne_eq_false_iff_eq.2 h11)] [.old 0, .old 1, .old 2, .old 1003, .old 4, .old 5, .old 6, .old 7, .old 1008, .old 9, .old 10, .nil 2] k
    ·have HE:=L11 h11
     obtain⟨HE,HN⟩:=HE
     exact((hX.to HE.symm).same HN).e [t_ (bne_iff_ne.2 h11)]
   ·have k:=K8 h8
    exact hX.h 18 [f_ (beq_eq_false_iff_ne.2 h8)] [.old 0, .old 1, .old 2, .old 1003, .old 4, .old 5, .old 6, .old 7, .old 8, .nil 2] k
  ·have HE:=L5 h5
   obtain⟨HE,HN⟩:=HE
   exact((hX.to HE.symm).same HN).e [t_ (bne_iff_ne.2 h5)]
 ·have HE:=L1 h1
  obtain⟨HE,HN⟩:=HE
  exact((hX.to HE.symm).same HN).e [t_ (bne_iff_ne.2 h1)]
theorem refOf_w1 {X:Cx} {a1 a2 a3 a4 a5 a6 a7:Int} {a8 a9 a10:Bool} {a11:Int} {C:Cl} {x1:Int} {n11_:Nat} {g1111 g1112:Nat→Int} {res:SV} {new:List (Option Vw)} (hX:Fi X 12 (calH C) (res) new) (H:(x1<(((rodN C (fun i=>dV a5 a6 a7 a9 a8 a10 i) a11 (dN a1 a2 a3 a4 a5 a6 a7 a8 a9 a10 a11)):Nat):Int)→Ir (x1-1)∧((0:Int)≤(x1-1)∧(x1-1)<(((rodN C (fun i=>dV a5 a6 a7 a9 a8 a10 i) a11 (dN a1 a2 a3 a4 a5 a6 a7 a8 a9 a10 a11)):Nat):Int))∧((0:Int)≤x1∧x1<(((rodN C (fun i=>dV a5 a6 a7 a9 a8 a10 i) a11 (dN a1 a2 a3 a4 a5 a6 a7 a8 a9 a10 a11)):Nat):Int))∧(((partC a4 ((toV C ((fun i=>dV a5 a6 a7 a9 a8 a10 i) ((x1-1).toNat)) a11).1) ((toV C ((fun i=>dV a5 a6 a7 a9 a8 a10 i) x1.toNat) a11).1) a10 ((toV C ((fun i=>dV a5 a6 a7 a9 a8 a10 i) (((((rodN C (fun i=>dV a5 a6 a7 a9 a8 a10 i) a11 (dN a1 a2 a3 a4 a5 a6 a7 a8 a9 a10 a11)):Nat):Int)-1).toNat)) a11).1) (frq a7) (rodN C (fun i=>gcV a5 a6 a7 a8 a10 i) a11 (gcN a1 a2 a3 a4 a5 a6 a7 a8 a10 a11)) (fun i=>(toV C ((fun i=>gcV a5 a6 a7 a8 a10 i) i) a11).1)).2.2)≠0→(((.tup [.agg [.val (.slice none 0 0), .val (.slice none 0 0), .val (.slice none 0 0),B false,I 0,I 0, .val (.slice none 0 0)],I ((partC a4 ((toV C ((fun i=>dV a5 a6 a7 a9 a8 a10 i) ((x1-1).toNat)) a11).1) ((toV C ((fun i=>dV a5 a6 a7 a9 a8 a10 i) x1.toNat) a11).1) a10 ((toV C ((fun i=>dV a5 a6 a7 a9 a8 a10 i) (((((rodN C (fun i=>dV a5 a6 a7 a9 a8 a10 i) a11 (dN a1 a2 a3 a4 a5 a6 a7 a8 a9 a10 a11)):Nat):Int)-1).toNat)) a11).1) (frq a7) (rodN C (fun i=>gcV a5 a6 a7 a8 a10 i) a11 (gcN a1 a2 a3 a4 a5 a6 a7 a8 a10 a11)) (fun i=>(toV C ((fun i=>gcV a5 a6 a7 a8 a10 i) i) a11).1)).2.2)]):SV)=res)∧sameHp [] new)∧(((partC a4 ((toV C ((fun i=>dV a5 a6 a7 a9 a8 a10 i) ((x1-1).toNat)) a11).1) ((toV C ((fun i=>dV a5 a6 a7 a9 a8 a10 i) x1.toNat) a11).1) a10 ((toV C ((fun i=>dV a5 a6 a7 a9 a8 a10 i) (((((rodN C (fun i=>dV a5 a6 a7 a9 a8 a10 i) a11 (dN a1 a2 a3 a4 a5 a6 a7 a8 a9 a10 a11)):Nat):Int)-1).toNat)) a11).1) (frq a7) (rodN C (fun i=>gcV a5 a6 a7 a8 a10 i) a11 (gcN a1 a2 a3 a4 a5 a6 a7 a8 a10 a11)) (fun i=>(toV C ((fun i=>gcV a5 a6 a7 a8 a10 i) i) a11).1)).2.2)=0→ ∃ q5002:Nat→Int,(∀ k,k<(n11_+1)→q5002 k=if k<n11_ then(g1111 k)else((partC a4 ((toV C ((fun i=>dV a5 a6 a7 a9 a8 a10 i) ((x1-1).toNat)) a11).1) ((toV C ((fun i=>dV a5 a6 a7 a9 a8 a10 i) x1.toNat) a11).1) a10 ((toV C ((fun i=>dV a5 a6 a7 a9 a8 a10 i) (((((rodN C (fun i=>dV a5 a6 a7 a9 a8 a10 i) a11 (dN a1 a2 a3 a4 a5 a6 a7 a8 a9 a10 a11)):Nat):Int)-1).toNat)) a11).1) (frq a7) (rodN C (fun i=>gcV a5 a6 a7 a8 a10 i) a11 (gcN a1 a2 a3 a4 a5 a6 a7 a8 a10 a11)) (fun i=>(toV C ((fun i=>gcV a5 a6 a7 a8 a10 i) i) a11).1)).1))∧ ∃ q5003:Nat→Int,(∀ k,k<(n11_+1)→q5003 k=if k<n11_ then(g1112 k)else((partC a4 ((toV C ((fun i=>dV a5 a6 a7 a9 a8 a10 i) ((x1-1).toNat)) a11).1) ((toV C ((fun i=>dV a5 a6 a7 a9 a8 a10 i) x1.toNat) a11).1) a10 ((toV C ((fun i=>dV a5 a6 a7 a9 a8 a10 i) (((((rodN C (fun i=>dV a5 a6 a7 a9 a8 a10 i) a11 (dN a1 a2 a3 a4 a5 a6 a7 a8 a9 a10 a11)):Nat):Int)-1).toNat)) a11).1) (frq a7) (rodN C (fun i=>gcV a5 a6 a7 a8 a10 i) a11 (gcN a1 a2 a3 a4 a5 a6 a7 a8 a10 a11)) (fun i=>(toV C ((fun i=>gcV a5 a6 a7 a8 a10 i) i) a11).1)).2.1))∧(n11_+1)*16≤140737488355328∧Ir (x1+1)∧Ok X (refOf_h0 a1 a2 a3 a4 a5 a6 a7 a8 a9 a10 a11 C (x1+1) (n11_+1) q5002 q5003)))∧(¬x1<(((rodN C (fun i=>dV a5 a6 a7 a9 a8 a10 i) a11 (dN a1 a2 a3 a4 a5 a6 a7 a8 a9 a10 a11)):Nat):Int)→(((.tup [.agg [.sl 2 (dN a1 a2 a3 a4 a5 a6 a7 a8 a9 a10 a11), .sl 3 (rodN C (fun i=>dV a5 a6 a7 a9 a8 a10 i) a11 (dN a1 a2 a3 a4 a5 a6 a7 a8 a9 a10 a11)), .sl 4 n11_,B a10,I ((toV C ((fun i=>dV a5 a6 a7 a9 a8 a10 i) (((((rodN C (fun i=>dV a5 a6 a7 a9 a8 a10 i) a11 (dN a1 a2 a3 a4 a5 a6 a7 a8 a9 a10 a11)):Nat):Int)-1).toNat)) a11).1),I (frq a7), .sl 5 (rodN C (fun i=>gcV a5 a6 a7 a8 a10 i) a11 (gcN a1 a2 a3 a4 a5 a6 a7 a8 a10 a11))],I 0]):SV)=res)∧sameHp [some (.row true 3 (dN a1 a2 a3 a4 a5 a6 a7 a8 a9 a10 a11) 1 (fun i=>[I (dV a5 a6 a7 a9 a8 a10 i)])),some (.row true 3 (rodN C (fun i=>dV a5 a6 a7 a9 a8 a10 i) a11 (dN a1 a2 a3 a4 a5 a6 a7 a8 a9 a10 a11)) 1 (fun i=>[I ((toV C ((fun i=>dV a5 a6 a7 a9 a8 a10 i) i) a11).1)])),some (.row true 48 n11_ 2 (fun i=>[I (g1111 i),I (g1112 i)])),some (.row true 3 (rodN C (fun i=>gcV a5 a6 a7 a8 a10 i) a11 (gcN a1 a2 a3 a4 a5 a6 a7 a8 a10 a11)) 1 (fun i=>[I ((toV C ((fun i=>gcV a5 a6 a7 a8 a10 i) i) a11).1)]))] new)):
  Ok X (refOf_h0 a1 a2 a3 a4 a5 a6 a7 a8 a9 a10 a11 C x1 n11_ g1111 g1112):=by
 obtain⟨L0,K0⟩:=H
 by_cases h0:x1<(((rodN C (fun i=>dV a5 a6 a7 a9 a8 a10 i) a11 (dN a1 a2 a3 a4 a5 a6 a7 a8 a9 a10 a11)):Nat):Int)
 ·obtain⟨h1,h2,h3,L4,K4⟩:=L0 h0
  refine hX.go [t_ (dt h0),q_ h1,q_ h2,q_ (show(rodN C (fun i=>dV a5 a6 a7 a9 a8 a10 i) a11 (dN a1 a2 a3 a4 a5 a6 a7 a8 a9 a10 a11))=(rodN C (fun i=>dV a5 a6 a7 a9 a8 a10 i) a11 (dN a1 a2 a3 a4 a5 a6 a7 a8 a9 a10 a11))from rfl),q_ h2,q_ h3,q_ (show(rodN C (fun i=>dV a5 a6 a7 a9 a8 a10 i) a11 (dN a1 a2 a3 a4 a5 a6 a7 a8 a9 a10 a11))=(rodN C (fun i=>dV a5 a6 a7 a9 a8 a10 i) a11 (dN a1 a2 a3 a4 a5 a6 a7 a8 a9 a10 a11))from rfl),q_ h3,h_ [.draw 17 [15] 1],c_ [9] (show S 19 [I a4,I ((toV C ((fun i=>dV a5 a6 a7 a9 a8 a10 i) ((x1-1).toNat)) a11).1),I ((toV C ((fun i=>dV a5 a6 a7 a9 a8 a10 i) x1.toNat) a11).1), .agg [B a10,I ((toV C ((fun i=>dV a5 a6 a7 a9 a8 a10 i) (((((rodN C (fun i=>dV a5 a6 a7 a9 a8 a10 i) a11 (dN a1 a2 a3 a4 a5 a6 a7 a8 a9 a10 a11)):Nat):Int)-1).toNat)) a11).1),I (frq a7), .sl 0 (rodN C (fun i=>gcV a5 a6 a7 a8 a10 i) a11 (gcN a1 a2 a3 a4 a5 a6 a7 a8 a10 a11))]] [some (.row false 3 (rodN C (fun i=>gcV a5 a6 a7 a8 a10 i) a11 (gcN a1 a2 a3 a4 a5 a6 a7 a8 a10 a11)) 1 (fun i=>[I ((toV C ((fun i=>gcV a5 a6 a7 a8 a10 i) i) a11).1)]))] (RT (partC a4 ((toV C ((fun i=>dV a5 a6 a7 a9 a8 a10 i) ((x1-1).toNat)) a11).1) ((toV C ((fun i=>dV a5 a6 a7 a9 a8 a10 i) x1.toNat) a11).1) a10 ((toV C ((fun i=>dV a5 a6 a7 a9 a8 a10 i) (((((rodN C (fun i=>dV a5 a6 a7 a9 a8 a10 i) a11 (dN a1 a2 a3 a4 a5 a6 a7 a8 a9 a10 a11)):Nat):Int)-1).toNat)) a11).1) (frq a7) (rodN C (fun i=>gcV a5 a6 a7 a8 a10 i) a11 (gcN a1 a2 a3 a4 a5 a6 a7 a8 a10 a11)) (fun i=>(toV C ((fun i=>gcV a5 a6 a7 a8 a10 i) i) a11).1))) []from rPart _ _ _),q_ (show(I ((partC a4 ((toV C ((fun i=>dV a5 a6 a7 a9 a8 a10 i) ((x1-1).toNat)) a11).1) ((toV C ((fun i=>dV a5 a6 a7 a9 a8 a10 i) x1.toNat) a11).1) a10 ((toV C ((fun i=>dV a5 a6 a7 a9 a8 a10 i) (((((rodN C (fun i=>dV a5 a6 a7 a9 a8 a10 i) a11 (dN a1 a2 a3 a4 a5 a6 a7 a8 a9 a10 a11)):Nat):Int)-1).toNat)) a11).1) (frq a7) (rodN C (fun i=>gcV a5 a6 a7 a8 a10 i) a11 (gcN a1 a2 a3 a4 a5 a6 a7 a8 a10 a11)) (fun i=>(toV C ((fun i=>gcV a5 a6 a7 a8 a10 i) i) a11).1)).2.2):SV)=I ((partC a4 ((toV C ((fun i=>dV a5 a6 a7 a9 a8 a10 i) ((x1-1).toNat)) a11).1) ((toV C ((fun i=>dV a5 a6 a7 a9 a8 a10 i) x1.toNat) a11).1) a10 ((toV C ((fun i=>dV a5 a6 a7 a9 a8 a10 i) (((((rodN C (fun i=>dV a5 a6 a7 a9 a8 a10 i) a11 (dN a1 a2 a3 a4 a5 a6 a7 a8 a9 a10 a11)):Nat):Int)-1).toNat)) a11).1) (frq a7) (rodN C (fun i=>gcV a5 a6 a7 a8 a10 i) a11 (gcN a1 a2 a3 a4 a5 a6 a7 a8 a10 a11)) (fun i=>(toV C ((fun i=>gcV a5 a6 a7 a8 a10 i) i) a11).1)).2.2)from rfl),q_ (show(I ((partC a4 ((toV C ((fun i=>dV a5 a6 a7 a9 a8 a10 i) ((x1-1).toNat)) a11).1) ((toV C ((fun i=>dV a5 a6 a7 a9 a8 a10 i) x1.toNat) a11).1) a10 ((toV C ((fun i=>dV a5 a6 a7 a9 a8 a10 i) (((((rodN C (fun i=>dV a5 a6 a7 a9 a8 a10 i) a11 (dN a1 a2 a3 a4 a5 a6 a7 a8 a9 a10 a11)):Nat):Int)-1).toNat)) a11).1) (frq a7) (rodN C (fun i=>gcV a5 a6 a7 a8 a10 i) a11 (gcN a1 a2 a3 a4 a5 a6 a7 a8 a10 a11)) (fun i=>(toV C ((fun i=>gcV a5 a6 a7 a8 a10 i) i) a11).1)).2.2):SV)=I ((partC a4 ((toV C ((fun i=>dV a5 a6 a7 a9 a8 a10 i) ((x1-1).toNat)) a11).1) ((toV C ((fun i=>dV a5 a6 a7 a9 a8 a10 i) x1.toNat) a11).1) a10 ((toV C ((fun i=>dV a5 a6 a7 a9 a8 a10 i) (((((rodN C (fun i=>dV a5 a6 a7 a9 a8 a10 i) a11 (dN a1 a2 a3 a4 a5 a6 a7 a8 a9 a10 a11)):Nat):Int)-1).toNat)) a11).1) (frq a7) (rodN C (fun i=>gcV a5 a6 a7 a8 a10 i) a11 (gcN a1 a2 a3 a4 a5 a6 a7 a8 a10 a11)) (fun i=>(toV C ((fun i=>gcV a5 a6 a7 a8 a10 i) i) a11).1)).2.2)from rfl)] ?_
  by_cases h4:((partC a4 ((toV C ((fun i=>dV a5 a6 a7 a9 a8 a10 i) ((x1-1).toNat)) a11).1) ((toV C ((fun i=>dV a5 a6 a7 a9 a8 a10 i) x1.toNat) a11).1) a10 ((toV C ((fun i=>dV a5 a6 a7 a9 a8 a10 i) (((((rodN C (fun i=>dV a5 a6 a7 a9 a8 a10 i) a11 (dN a1 a2 a3 a4 a5 a6 a7 a8 a9 a10 a11)):Nat):Int)-1).toNat)) a11).1) (frq a7) (rodN C (fun i=>gcV a5 a6 a7 a8 a10 i) a11 (gcN a1 a2 a3 a4 a5 a6 a7 a8 a10 a11)) (fun i=>(toV C ((fun i=>gcV a5 a6 a7 a8 a10 i) i) a11).1)).2.2)=0
  ·obtain⟨q5002,h5,q5003,h6,h7,h8,k⟩:=K4 h4
   exact hX.h 18 [f_ (bne_eq_false_iff_eq.2 h4),q_ (show ∀ k,k<1→(fun i=>[I ((partC a4 ((toV C ((fun i=>dV a5 a6 a7 a9 a8 a10 i) ((x1-1).toNat)) a11).1) ((toV C ((fun i=>dV a5 a6 a7 a9 a8 a10 i) x1.toNat) a11).1) a10 ((toV C ((fun i=>dV a5 a6 a7 a9 a8 a10 i) (((((rodN C (fun i=>dV a5 a6 a7 a9 a8 a10 i) a11 (dN a1 a2 a3 a4 a5 a6 a7 a8 a9 a10 a11)):Nat):Int)-1).toNat)) a11).1) (frq a7) (rodN C (fun i=>gcV a5 a6 a7 a8 a10 i) a11 (gcN a1 a2 a3 a4 a5 a6 a7 a8 a10 a11)) (fun i=>(toV C ((fun i=>gcV a5 a6 a7 a8 a10 i) i) a11).1)).1),I ((partC a4 ((toV C ((fun i=>dV a5 a6 a7 a9 a8 a10 i) ((x1-1).toNat)) a11).1) ((toV C ((fun i=>dV a5 a6 a7 a9 a8 a10 i) x1.toNat) a11).1) a10 ((toV C ((fun i=>dV a5 a6 a7 a9 a8 a10 i) (((((rodN C (fun i=>dV a5 a6 a7 a9 a8 a10 i) a11 (dN a1 a2 a3 a4 a5 a6 a7 a8 a9 a10 a11)):Nat):Int)-1).toNat)) a11).1) (frq a7) (rodN C (fun i=>gcV a5 a6 a7 a8 a10 i) a11 (gcN a1 a2 a3 a4 a5 a6 a7 a8 a10 a11)) (fun i=>(toV C ((fun i=>gcV a5 a6 a7 a8 a10 i) i) a11).1)).2.1)]) k=[[I ((partC a4 ((toV C ((fun i=>dV a5 a6 a7 a9 a8 a10 i) ((x1-1).toNat)) a11).1) ((toV C ((fun i=>dV a5 a6 a7 a9 a8 a10 i) x1.toNat) a11).1) a10 ((toV C ((fun i=>dV a5 a6 a7 a9 a8 a10 i) (((((rodN C (fun i=>dV a5 a6 a7 a9 a8 a10 i) a11 (dN a1 a2 a3 a4 a5 a6 a7 a8 a9 a10 a11)):Nat):Int)-1).toNat)) a11).1) (frq a7) (rodN C (fun i=>gcV a5 a6 a7 a8 a10 i) a11 (gcN a1 a2 a3 a4 a5 a6 a7 a8 a10 a11)) (fun i=>(toV C ((fun i=>gcV a5 a6 a7 a8 a10 i) i) a11).1)).1),I ((partC a4 ((toV C ((fun i=>dV a5 a6 a7 a9 a8 a10 i) ((x1-1).toNat)) a11).1) ((toV C ((fun i=>dV a5 a6 a7 a9 a8 a10 i) x1.toNat) a11).1) a10 ((toV C ((fun i=>dV a5 a6 a7 a9 a8 a10 i) (((((rodN C (fun i=>dV a5 a6 a7 a9 a8 a10 i) a11 (dN a1 a2 a3 a4 a5 a6 a7 a8 a9 a10 a11)):Nat):Int)-1).toNat)) a11).1) (frq a7) (rodN C (fun i=>gcV a5 a6 a7 a8 a10 i) a11 (gcN a1 a2 a3 a4 a5 a6 a7 a8 a10 a11)) (fun i=>(toV C ((fun i=>gcV a5 a6 a7 a8 a10 i) i) a11).1)).2.1)]].getD k []from by intro k hk;match k,hk with|0,_=>rfl|k+1,hk=>omega),q_ (re 1),q_ (re n11_),q_ h7,q_ (show ∀ k,k<n11_+1→(fun i=>[I (q5002 i),I (q5003 i)]) k=if k<n11_ then(fun i=>[I (g1111 i),I (g1112 i)]) k else(fun i=>[I ((partC a4 ((toV C ((fun i=>dV a5 a6 a7 a9 a8 a10 i) ((x1-1).toNat)) a11).1) ((toV C ((fun i=>dV a5 a6 a7 a9 a8 a10 i) x1.toNat) a11).1) a10 ((toV C ((fun i=>dV a5 a6 a7 a9 a8 a10 i) (((((rodN C (fun i=>dV a5 a6 a7 a9 a8 a10 i) a11 (dN a1 a2 a3 a4 a5 a6 a7 a8 a9 a10 a11)):Nat):Int)-1).toNat)) a11).1) (frq a7) (rodN C (fun i=>gcV a5 a6 a7 a8 a10 i) a11 (gcN a1 a2 a3 a4 a5 a6 a7 a8 a10 a11)) (fun i=>(toV C ((fun i=>gcV a5 a6 a7 a8 a10 i) i) a11).1)).1),I ((partC a4 ((toV C ((fun i=>dV a5 a6 a7 a9 a8 a10 i) ((x1-1).toNat)) a11).1) ((toV C ((fun i=>dV a5 a6 a7 a9 a8 a10 i) x1.toNat) a11).1) a10 ((toV C ((fun i=>dV a5 a6 a7 a9 a8 a10 i) (((((rodN C (fun i=>dV a5 a6 a7 a9 a8 a10 i) a11 (dN a1 a2 a3 a4 a5 a6 a7 a8 a9 a10 a11)):Nat):Int)-1).toNat)) a11).1) (frq a7) (rodN C (fun i=>gcV a5 a6 a7 a8 a10 i) a11 (gcN a1 a2 a3 a4 a5 a6 a7 a8 a10 a11)) (fun i=>(toV C ((fun i=>gcV a5 a6 a7 a8 a10 i) i) a11).1)).2.1)]) (k-n11_)from fun k hk=>by
   have e0:=h5 k hk
   have e1:=h6 k hk
   by_cases c:k<n11_
   ·rw[if_pos c]at e0 e1⊢;simp only[e0,e1]
   ·rw[if_neg c]at e0 e1⊢;simp only[e0,e1]),q_ h8,h_ [.row (fun i=>[I ((partC a4 ((toV C ((fun i=>dV a5 a6 a7 a9 a8 a10 i) ((x1-1).toNat)) a11).1) ((toV C ((fun i=>dV a5 a6 a7 a9 a8 a10 i) x1.toNat) a11).1) a10 ((toV C ((fun i=>dV a5 a6 a7 a9 a8 a10 i) (((((rodN C (fun i=>dV a5 a6 a7 a9 a8 a10 i) a11 (dN a1 a2 a3 a4 a5 a6 a7 a8 a9 a10 a11)):Nat):Int)-1).toNat)) a11).1) (frq a7) (rodN C (fun i=>gcV a5 a6 a7 a8 a10 i) a11 (gcN a1 a2 a3 a4 a5 a6 a7 a8 a10 a11)) (fun i=>(toV C ((fun i=>gcV a5 a6 a7 a8 a10 i) i) a11).1)).1),I ((partC a4 ((toV C ((fun i=>dV a5 a6 a7 a9 a8 a10 i) ((x1-1).toNat)) a11).1) ((toV C ((fun i=>dV a5 a6 a7 a9 a8 a10 i) x1.toNat) a11).1) a10 ((toV C ((fun i=>dV a5 a6 a7 a9 a8 a10 i) (((((rodN C (fun i=>dV a5 a6 a7 a9 a8 a10 i) a11 (dN a1 a2 a3 a4 a5 a6 a7 a8 a9 a10 a11)):Nat):Int)-1).toNat)) a11).1) (frq a7) (rodN C (fun i=>gcV a5 a6 a7 a8 a10 i) a11 (gcN a1 a2 a3 a4 a5 a6 a7 a8 a10 a11)) (fun i=>(toV C ((fun i=>gcV a5 a6 a7 a8 a10 i) i) a11).1)).2.1)]), .row (fun i=>[I (q5002 i),I (q5003 i)])]] [.old 0, .old 1, .old 2, .old 1003, .old 4, .old 5, .old 6, .old 7, .old 1008, .old 9, .old 10, .old 14] k
  ·have HE:=L4 h4
   obtain⟨HE,HN⟩:=HE
   exact((hX.to HE.symm).same HN).e [t_ (bne_iff_ne.2 h4)]
 ·have HE:=K0 h0
  obtain⟨HE,HN⟩:=HE
  exact((hX.to HE.symm).same HN).e [f_ (df h0)] [5,6,11,9]
theorem refOf_w2 {X:Cx} {a1 a2 a3 a4 a5 a6 a7:Int} {a8 a9 a10:Bool} {a11:Int} {C:Cl} {x1:Int} {n9_:Nat} {g1091 g1092:Nat→Int} {res:SV} {new:List (Option Vw)} (hX:Fi X 12 (calH C) (res) new) (H:(x1<(((rodN C (fun i=>dV a5 a6 a7 a9 a8 a10 i) a11 (dN a1 a2 a3 a4 a5 a6 a7 a8 a9 a10 a11)):Nat):Int)→Ir (x1-1)∧((0:Int)≤(x1-1)∧(x1-1)<(((rodN C (fun i=>dV a5 a6 a7 a9 a8 a10 i) a11 (dN a1 a2 a3 a4 a5 a6 a7 a8 a9 a10 a11)):Nat):Int))∧((0:Int)≤x1∧x1<(((rodN C (fun i=>dV a5 a6 a7 a9 a8 a10 i) a11 (dN a1 a2 a3 a4 a5 a6 a7 a8 a9 a10 a11)):Nat):Int))∧a4≠6∧(((partC a4 ((toV C ((fun i=>dV a5 a6 a7 a9 a8 a10 i) ((x1-1).toNat)) a11).1) ((toV C ((fun i=>dV a5 a6 a7 a9 a8 a10 i) x1.toNat) a11).1) a10 ((toV C ((fun i=>dV a5 a6 a7 a9 a8 a10 i) (((((rodN C (fun i=>dV a5 a6 a7 a9 a8 a10 i) a11 (dN a1 a2 a3 a4 a5 a6 a7 a8 a9 a10 a11)):Nat):Int)-1).toNat)) a11).1) (frq a7) 0 (fun _=>0)).2.2)≠0→(((.tup [.agg [.val (.slice none 0 0), .val (.slice none 0 0), .val (.slice none 0 0),B false,I 0,I 0, .val (.slice none 0 0)],I ((partC a4 ((toV C ((fun i=>dV a5 a6 a7 a9 a8 a10 i) ((x1-1).toNat)) a11).1) ((toV C ((fun i=>dV a5 a6 a7 a9 a8 a10 i) x1.toNat) a11).1) a10 ((toV C ((fun i=>dV a5 a6 a7 a9 a8 a10 i) (((((rodN C (fun i=>dV a5 a6 a7 a9 a8 a10 i) a11 (dN a1 a2 a3 a4 a5 a6 a7 a8 a9 a10 a11)):Nat):Int)-1).toNat)) a11).1) (frq a7) 0 (fun _=>0)).2.2)]):SV)=res)∧sameHp [] new)∧(((partC a4 ((toV C ((fun i=>dV a5 a6 a7 a9 a8 a10 i) ((x1-1).toNat)) a11).1) ((toV C ((fun i=>dV a5 a6 a7 a9 a8 a10 i) x1.toNat) a11).1) a10 ((toV C ((fun i=>dV a5 a6 a7 a9 a8 a10 i) (((((rodN C (fun i=>dV a5 a6 a7 a9 a8 a10 i) a11 (dN a1 a2 a3 a4 a5 a6 a7 a8 a9 a10 a11)):Nat):Int)-1).toNat)) a11).1) (frq a7) 0 (fun _=>0)).2.2)=0→ ∃ q5002:Nat→Int,(∀ k,k<(n9_+1)→q5002 k=if k<n9_ then(g1091 k)else((partC a4 ((toV C ((fun i=>dV a5 a6 a7 a9 a8 a10 i) ((x1-1).toNat)) a11).1) ((toV C ((fun i=>dV a5 a6 a7 a9 a8 a10 i) x1.toNat) a11).1) a10 ((toV C ((fun i=>dV a5 a6 a7 a9 a8 a10 i) (((((rodN C (fun i=>dV a5 a6 a7 a9 a8 a10 i) a11 (dN a1 a2 a3 a4 a5 a6 a7 a8 a9 a10 a11)):Nat):Int)-1).toNat)) a11).1) (frq a7) 0 (fun _=>0)).1))∧ ∃ q5003:Nat→Int,(∀ k,k<(n9_+1)→q5003 k=if k<n9_ then(g1092 k)else((partC a4 ((toV C ((fun i=>dV a5 a6 a7 a9 a8 a10 i) ((x1-1).toNat)) a11).1) ((toV C ((fun i=>dV a5 a6 a7 a9 a8 a10 i) x1.toNat) a11).1) a10 ((toV C ((fun i=>dV a5 a6 a7 a9 a8 a10 i) (((((rodN C (fun i=>dV a5 a6 a7 a9 a8 a10 i) a11 (dN a1 a2 a3 a4 a5 a6 a7 a8 a9 a10 a11)):Nat):Int)-1).toNat)) a11).1) (frq a7) 0 (fun _=>0)).2.1))∧(n9_+1)*16≤140737488355328∧Ir (x1+1)∧Ok X (refOf_h2 a1 a2 a3 a4 a5 a6 a7 a8 a9 a10 a11 C (x1+1) (n9_+1) q5002 q5003)))∧(¬x1<(((rodN C (fun i=>dV a5 a6 a7 a9 a8 a10 i) a11 (dN a1 a2 a3 a4 a5 a6 a7 a8 a9 a10 a11)):Nat):Int)→(((.tup [.agg [.sl 2 (dN a1 a2 a3 a4 a5 a6 a7 a8 a9 a10 a11), .sl 3 (rodN C (fun i=>dV a5 a6 a7 a9 a8 a10 i) a11 (dN a1 a2 a3 a4 a5 a6 a7 a8 a9 a10 a11)), .sl 4 n9_,B a10,I ((toV C ((fun i=>dV a5 a6 a7 a9 a8 a10 i) (((((rodN C (fun i=>dV a5 a6 a7 a9 a8 a10 i) a11 (dN a1 a2 a3 a4 a5 a6 a7 a8 a9 a10 a11)):Nat):Int)-1).toNat)) a11).1),I (frq a7), .val (.slice none 0 0)],I 0]):SV)=res)∧sameHp [some (.row true 3 (dN a1 a2 a3 a4 a5 a6 a7 a8 a9 a10 a11) 1 (fun i=>[I (dV a5 a6 a7 a9 a8 a10 i)])),some (.row true 3 (rodN C (fun i=>dV a5 a6 a7 a9 a8 a10 i) a11 (dN a1 a2 a3 a4 a5 a6 a7 a8 a9 a10 a11)) 1 (fun i=>[I ((toV C ((fun i=>dV a5 a6 a7 a9 a8 a10 i) i) a11).1)])),some (.row true 48 n9_ 2 (fun i=>[I (g1091 i),I (g1092 i)]))] new)):
  Ok X (refOf_h1 a1 a2 a3 a4 a5 a6 a7 a8 a9 a10 a11 C x1 n9_ g1091 g1092):=by
 obtain⟨L0,K0⟩:=H
 by_cases h0:x1<(((rodN C (fun i=>dV a5 a6 a7 a9 a8 a10 i) a11 (dN a1 a2 a3 a4 a5 a6 a7 a8 a9 a10 a11)):Nat):Int)
 ·obtain⟨h1,h2,h3,h4,L5,K5⟩:=L0 h0
  refine hX.go [t_ (dt h0),q_ h1,q_ h2,q_ (show(rodN C (fun i=>dV a5 a6 a7 a9 a8 a10 i) a11 (dN a1 a2 a3 a4 a5 a6 a7 a8 a9 a10 a11))=(rodN C (fun i=>dV a5 a6 a7 a9 a8 a10 i) a11 (dN a1 a2 a3 a4 a5 a6 a7 a8 a9 a10 a11))from rfl),q_ h2,q_ h3,q_ (show(rodN C (fun i=>dV a5 a6 a7 a9 a8 a10 i) a11 (dN a1 a2 a3 a4 a5 a6 a7 a8 a9 a10 a11))=(rodN C (fun i=>dV a5 a6 a7 a9 a8 a10 i) a11 (dN a1 a2 a3 a4 a5 a6 a7 a8 a9 a10 a11))from rfl),q_ h3,h_ [.draw 17 [15] 1],c_ [] (show S 19 [I a4,I ((toV C ((fun i=>dV a5 a6 a7 a9 a8 a10 i) ((x1-1).toNat)) a11).1),I ((toV C ((fun i=>dV a5 a6 a7 a9 a8 a10 i) x1.toNat) a11).1), .agg [B a10,I ((toV C ((fun i=>dV a5 a6 a7 a9 a8 a10 i) (((((rodN C (fun i=>dV a5 a6 a7 a9 a8 a10 i) a11 (dN a1 a2 a3 a4 a5 a6 a7 a8 a9 a10 a11)):Nat):Int)-1).toNat)) a11).1),I (frq a7), .val (.slice none 0 0)]] [] (RT (partC a4 ((toV C ((fun i=>dV a5 a6 a7 a9 a8 a10 i) ((x1-1).toNat)) a11).1) ((toV C ((fun i=>dV a5 a6 a7 a9 a8 a10 i) x1.toNat) a11).1) a10 ((toV C ((fun i=>dV a5 a6 a7 a9 a8 a10 i) (((((rodN C (fun i=>dV a5 a6 a7 a9 a8 a10 i) a11 (dN a1 a2 a3 a4 a5 a6 a7 a8 a9 a10 a11)):Nat):Int)-1).toNat)) a11).1) (frq a7) 0 (fun _=>0))) []from rPartN h4),q_ (show(I ((partC a4 ((toV C ((fun i=>dV a5 a6 a7 a9 a8 a10 i) ((x1-1).toNat)) a11).1) ((toV C ((fun i=>dV a5 a6 a7 a9 a8 a10 i) x1.toNat) a11).1) a10 ((toV C ((fun i=>dV a5 a6 a7 a9 a8 a10 i) (((((rodN C (fun i=>dV a5 a6 a7 a9 a8 a10 i) a11 (dN a1 a2 a3 a4 a5 a6 a7 a8 a9 a10 a11)):Nat):Int)-1).toNat)) a11).1) (frq a7) 0 (fun _=>0)).2.2):SV)=I ((partC a4 ((toV C ((fun i=>dV a5 a6 a7 a9 a8 a10 i) ((x1-1).toNat)) a11).1) ((toV C ((fun i=>dV a5 a6 a7 a9 a8 a10 i) x1.toNat) a11).1) a10 ((toV C ((fun i=>dV a5 a6 a7 a9 a8 a10 i) (((((rodN C (fun i=>dV a5 a6 a7 a9 a8 a10 i) a11 (dN a1 a2 a3 a4 a5 a6 a7 a8 a9 a10 a11)):Nat):Int)-1).toNat)) a11).1) (frq a7) 0 (fun _=>0)).2.2)from rfl),q_ (show(I ((partC a4 ((toV C ((fun i=>dV a5 a6 a7 a9 a8 a10 i) ((x1-1).toNat)) a11).1) ((toV C ((fun i=>dV a5 a6 a7 a9 a8 a10 i) x1.toNat) a11).1) a10 ((toV C ((fun i=>dV a5 a6 a7 a9 a8 a10 i) (((((rodN C (fun i=>dV a5 a6 a7 a9 a8 a10 i) a11 (dN a1 a2 a3 a4 a5 a6 a7 a8 a9 a10 a11)):Nat):Int)-1).toNat)) a11).1) (frq a7) 0 (fun _=>0)).2.2):SV)=I ((partC a4 ((toV C ((fun i=>dV a5 a6 a7 a9 a8 a10 i) ((x1-1).toNat)) a11).1) ((toV C ((fun i=>dV a5 a6 a7 a9 a8 a10 i) x1.toNat) a11).1) a10 ((toV C ((fun i=>dV a5 a6 a7 a9 a8 a10 i) (((((rodN C (fun i=>dV a5 a6 a7 a9 a8 a10 i) a11 (dN a1 a2 a3 a4 a5 a6 a7 a8 a9 a10 a11)):Nat):Int)-1).toNat)) a11).1) (frq a7) 0 (fun _=>0)).2.2)from rfl)] ?_
  by_cases h5:((partC a4 ((toV C ((fun i=>dV a5 a6 a7 a9 a8 a10 i) ((x1-1).toNat)) a11).1) ((toV C ((fun i=>dV a5 a6 a7 a9 a8 a10 i) x1.toNat) a11).1) a10 ((toV C ((fun i=>dV a5 a6 a7 a9 a8 a10 i) (((((rodN C (fun i=>dV a5 a6 a7 a9 a8 a10 i) a11 (dN a1 a2 a3 a4 a5 a6 a7 a8 a9 a10 a11)):Nat):Int)-1).toNat)) a11).1) (frq a7) 0 (fun _=>0)).2.2)=0
  ·obtain⟨q5002,h6,q5003,h7,h8,h9,k⟩:=K5 h5
   exact hX.h 18 [f_ (bne_eq_false_iff_eq.2 h5),q_ (show ∀ k,k<1→(fun i=>[I ((partC a4 ((toV C ((fun i=>dV a5 a6 a7 a9 a8 a10 i) ((x1-1).toNat)) a11).1) ((toV C ((fun i=>dV a5 a6 a7 a9 a8 a10 i) x1.toNat) a11).1) a10 ((toV C ((fun i=>dV a5 a6 a7 a9 a8 a10 i) (((((rodN C (fun i=>dV a5 a6 a7 a9 a8 a10 i) a11 (dN a1 a2 a3 a4 a5 a6 a7 a8 a9 a10 a11)):Nat):Int)-1).toNat)) a11).1) (frq a7) 0 (fun _=>0)).1),I ((partC a4 ((toV C ((fun i=>dV a5 a6 a7 a9 a8 a10 i) ((x1-1).toNat)) a11).1) ((toV C ((fun i=>dV a5 a6 a7 a9 a8 a10 i) x1.toNat) a11).1) a10 ((toV C ((fun i=>dV a5 a6 a7 a9 a8 a10 i) (((((rodN C (fun i=>dV a5 a6 a7 a9 a8 a10 i) a11 (dN a1 a2 a3 a4 a5 a6 a7 a8 a9 a10 a11)):Nat):Int)-1).toNat)) a11).1) (frq a7) 0 (fun _=>0)).2.1)]) k=[[I ((partC a4 ((toV C ((fun i=>dV a5 a6 a7 a9 a8 a10 i) ((x1-1).toNat)) a11).1) ((toV C ((fun i=>dV a5 a6 a7 a9 a8 a10 i) x1.toNat) a11).1) a10 ((toV C ((fun i=>dV a5 a6 a7 a9 a8 a10 i) (((((rodN C (fun i=>dV a5 a6 a7 a9 a8 a10 i) a11 (dN a1 a2 a3 a4 a5 a6 a7 a8 a9 a10 a11)):Nat):Int)-1).toNat)) a11).1) (frq a7) 0 (fun _=>0)).1),I ((partC a4 ((toV C ((fun i=>dV a5 a6 a7 a9 a8 a10 i) ((x1-1).toNat)) a11).1) ((toV C ((fun i=>dV a5 a6 a7 a9 a8 a10 i) x1.toNat) a11).1) a10 ((toV C ((fun i=>dV a5 a6 a7 a9 a8 a10 i) (((((rodN C (fun i=>dV a5 a6 a7 a9 a8 a10 i) a11 (dN a1 a2 a3 a4 a5 a6 a7 a8 a9 a10 a11)):Nat):Int)-1).toNat)) a11).1) (frq a7) 0 (fun _=>0)).2.1)]].getD k []from by intro k hk;match k,hk with|0,_=>rfl|k+1,hk=>omega),q_ (re 1),q_ (re n9_),q_ h8,q_ (show ∀ k,k<n9_+1→(fun i=>[I (q5002 i),I (q5003 i)]) k=if k<n9_ then(fun i=>[I (g1091 i),I (g1092 i)]) k else(fun i=>[I ((partC a4 ((toV C ((fun i=>dV a5 a6 a7 a9 a8 a10 i) ((x1-1).toNat)) a11).1) ((toV C ((fun i=>dV a5 a6 a7 a9 a8 a10 i) x1.toNat) a11).1) a10 ((toV C ((fun i=>dV a5 a6 a7 a9 a8 a10 i) (((((rodN C (fun i=>dV a5 a6 a7 a9 a8 a10 i) a11 (dN a1 a2 a3 a4 a5 a6 a7 a8 a9 a10 a11)):Nat):Int)-1).toNat)) a11).1) (frq a7) 0 (fun _=>0)).1),I ((partC a4 ((toV C ((fun i=>dV a5 a6 a7 a9 a8 a10 i) ((x1-1).toNat)) a11).1) ((toV C ((fun i=>dV a5 a6 a7 a9 a8 a10 i) x1.toNat) a11).1) a10 ((toV C ((fun i=>dV a5 a6 a7 a9 a8 a10 i) (((((rodN C (fun i=>dV a5 a6 a7 a9 a8 a10 i) a11 (dN a1 a2 a3 a4 a5 a6 a7 a8 a9 a10 a11)):Nat):Int)-1).toNat)) a11).1) (frq a7) 0 (fun _=>0)).2.1)]) (k-n9_)from fun k hk=>by
   have e0:=h6 k hk
   have e1:=h7 k hk
   by_cases c:k<n9_
   ·rw[if_pos c]at e0 e1⊢;simp only[e0,e1]
   ·rw[if_neg c]at e0 e1⊢;simp only[e0,e1]),q_ h9,h_ [.row (fun i=>[I ((partC a4 ((toV C ((fun i=>dV a5 a6 a7 a9 a8 a10 i) ((x1-1).toNat)) a11).1) ((toV C ((fun i=>dV a5 a6 a7 a9 a8 a10 i) x1.toNat) a11).1) a10 ((toV C ((fun i=>dV a5 a6 a7 a9 a8 a10 i) (((((rodN C (fun i=>dV a5 a6 a7 a9 a8 a10 i) a11 (dN a1 a2 a3 a4 a5 a6 a7 a8 a9 a10 a11)):Nat):Int)-1).toNat)) a11).1) (frq a7) 0 (fun _=>0)).1),I ((partC a4 ((toV C ((fun i=>dV a5 a6 a7 a9 a8 a10 i) ((x1-1).toNat)) a11).1) ((toV C ((fun i=>dV a5 a6 a7 a9 a8 a10 i) x1.toNat) a11).1) a10 ((toV C ((fun i=>dV a5 a6 a7 a9 a8 a10 i) (((((rodN C (fun i=>dV a5 a6 a7 a9 a8 a10 i) a11 (dN a1 a2 a3 a4 a5 a6 a7 a8 a9 a10 a11)):Nat):Int)-1).toNat)) a11).1) (frq a7) 0 (fun _=>0)).2.1)]), .row (fun i=>[I (q5002 i),I (q5003 i)])]] [.old 0, .old 1, .old 2, .old 1003, .old 4, .old 5, .old 6, .old 7, .old 8, .old 1009, .old 1010, .old 1011, .old 12] k
  ·have HE:=L5 h5
   obtain⟨HE,HN⟩:=HE
   exact((hX.to HE.symm).same HN).e [t_ (bne_iff_ne.2 h5)]
 ·have HE:=K0 h0
  obtain⟨HE,HN⟩:=HE
  exact((hX.to HE.symm).same HN).e [f_ (df h0)] [5,6,9]
theorem refOf_w3 {X:Cx} {a1 a2 a3 a4 a5 a6 a7:Int} {a8 a9 a10:Bool} {a11:Int} {C:Cl} {x1:Int} {n12_:Nat} {g1121 g1122:Nat→Int} {res:SV} {new:List (Option Vw)} (hX:Fi X 12 (calH C) (res) new) (H:(x1<(((rodN C (fun i=>dV a5 a6 a7 a9 a8 a10 i) a11 (dN a1 a2 a3 a4 a5 a6 a7 a8 a9 a10 a11)):Nat):Int)→Ir (x1-1)∧((0:Int)≤(x1-1)∧(x1-1)<(((rodN C (fun i=>dV a5 a6 a7 a9 a8 a10 i) a11 (dN a1 a2 a3 a4 a5 a6 a7 a8 a9 a10 a11)):Nat):Int))∧((0:Int)≤x1∧x1<(((rodN C (fun i=>dV a5 a6 a7 a9 a8 a10 i) a11 (dN a1 a2 a3 a4 a5 a6 a7 a8 a9 a10 a11)):Nat):Int))∧a4≠6∧(((partC a4 ((toV C ((fun i=>dV a5 a6 a7 a9 a8 a10 i) ((x1-1).toNat)) a11).1) ((toV C ((fun i=>dV a5 a6 a7 a9 a8 a10 i) x1.toNat) a11).1) a10 ((toV C ((fun i=>dV a5 a6 a7 a9 a8 a10 i) (((((rodN C (fun i=>dV a5 a6 a7 a9 a8 a10 i) a11 (dN a1 a2 a3 a4 a5 a6 a7 a8 a9 a10 a11)):Nat):Int)-1).toNat)) a11).1) (frq a7) 0 (fun _=>0)).2.2)≠0→(((.tup [.agg [.val (.slice none 0 0), .val (.slice none 0 0), .val (.slice none 0 0),B false,I 0,I 0, .val (.slice none 0 0)],I ((partC a4 ((toV C ((fun i=>dV a5 a6 a7 a9 a8 a10 i) ((x1-1).toNat)) a11).1) ((toV C ((fun i=>dV a5 a6 a7 a9 a8 a10 i) x1.toNat) a11).1) a10 ((toV C ((fun i=>dV a5 a6 a7 a9 a8 a10 i) (((((rodN C (fun i=>dV a5 a6 a7 a9 a8 a10 i) a11 (dN a1 a2 a3 a4 a5 a6 a7 a8 a9 a10 a11)):Nat):Int)-1).toNat)) a11).1) (frq a7) 0 (fun _=>0)).2.2)]):SV)=res)∧sameHp [] new)∧(((partC a4 ((toV C ((fun i=>dV a5 a6 a7 a9 a8 a10 i) ((x1-1).toNat)) a11).1) ((toV C ((fun i=>dV a5 a6 a7 a9 a8 a10 i) x1.toNat) a11).1) a10 ((toV C ((fun i=>dV a5 a6 a7 a9 a8 a10 i) (((((rodN C (fun i=>dV a5 a6 a7 a9 a8 a10 i) a11 (dN a1 a2 a3 a4 a5 a6 a7 a8 a9 a10 a11)):Nat):Int)-1).toNat)) a11).1) (frq a7) 0 (fun _=>0)).2.2)=0→ ∃ q5002:Nat→Int,(∀ k,k<(n12_+1)→q5002 k=if k<n12_ then(g1121 k)else((partC a4 ((toV C ((fun i=>dV a5 a6 a7 a9 a8 a10 i) ((x1-1).toNat)) a11).1) ((toV C ((fun i=>dV a5 a6 a7 a9 a8 a10 i) x1.toNat) a11).1) a10 ((toV C ((fun i=>dV a5 a6 a7 a9 a8 a10 i) (((((rodN C (fun i=>dV a5 a6 a7 a9 a8 a10 i) a11 (dN a1 a2 a3 a4 a5 a6 a7 a8 a9 a10 a11)):Nat):Int)-1).toNat)) a11).1) (frq a7) 0 (fun _=>0)).1))∧ ∃ q5003:Nat→Int,(∀ k,k<(n12_+1)→q5003 k=if k<n12_ then(g1122 k)else((partC a4 ((toV C ((fun i=>dV a5 a6 a7 a9 a8 a10 i) ((x1-1).toNat)) a11).1) ((toV C ((fun i=>dV a5 a6 a7 a9 a8 a10 i) x1.toNat) a11).1) a10 ((toV C ((fun i=>dV a5 a6 a7 a9 a8 a10 i) (((((rodN C (fun i=>dV a5 a6 a7 a9 a8 a10 i) a11 (dN a1 a2 a3 a4 a5 a6 a7 a8 a9 a10 a11)):Nat):Int)-1).toNat)) a11).1) (frq a7) 0 (fun _=>0)).2.1))∧(n12_+1)*16≤140737488355328∧Ir (x1+1)∧Ok X (refOf_h1 a1 a2 a3 a4 a5 a6 a7 a8 a9 a10 a11 C (x1+1) (n12_+1) q5002 q5003)))∧(¬x1<(((rodN C (fun i=>dV a5 a6 a7 a9 a8 a10 i) a11 (dN a1 a2 a3 a4 a5 a6 a7 a8 a9 a10 a11)):Nat):Int)→(((.tup [.agg [.sl 2 (dN a1 a2 a3 a4 a5 a6 a7 a8 a9 a10 a11), .sl 3 (rodN C (fun i=>dV a5 a6 a7 a9 a8 a10 i) a11 (dN a1 a2 a3 a4 a5 a6 a7 a8 a9 a10 a11)), .sl 4 n12_,B a10,I ((toV C ((fun i=>dV a5 a6 a7 a9 a8 a10 i) (((((rodN C (fun i=>dV a5 a6 a7 a9 a8 a10 i) a11 (dN a1 a2 a3 a4 a5 a6 a7 a8 a9 a10 a11)):Nat):Int)-1).toNat)) a11).1),I (frq a7), .val (.slice none 0 0)],I 0]):SV)=res)∧sameHp [some (.row true 3 (dN a1 a2 a3 a4 a5 a6 a7 a8 a9 a10 a11) 1 (fun i=>[I (dV a5 a6 a7 a9 a8 a10 i)])),some (.row true 3 (rodN C (fun i=>dV a5 a6 a7 a9 a8 a10 i) a11 (dN a1 a2 a3 a4 a5 a6 a7 a8 a9 a10 a11)) 1 (fun i=>[I ((toV C ((fun i=>dV a5 a6 a7 a9 a8 a10 i) i) a11).1)])),some (.row true 48 n12_ 2 (fun i=>[I (g1121 i),I (g1122 i)]))] new)):
  Ok X (refOf_h2 a1 a2 a3 a4 a5 a6 a7 a8 a9 a10 a11 C x1 n12_ g1121 g1122):=by
 obtain⟨L0,K0⟩:=H
 by_cases h0:x1<(((rodN C (fun i=>dV a5 a6 a7 a9 a8 a10 i) a11 (dN a1 a2 a3 a4 a5 a6 a7 a8 a9 a10 a11)):Nat):Int)
 ·obtain⟨h1,h2,h3,h4,L5,K5⟩:=L0 h0
  refine hX.go [t_ (dt h0),q_ h1,q_ h2,q_ (show(rodN C (fun i=>dV a5 a6 a7 a9 a8 a10 i) a11 (dN a1 a2 a3 a4 a5 a6 a7 a8 a9 a10 a11))=(rodN C (fun i=>dV a5 a6 a7 a9 a8 a10 i) a11 (dN a1 a2 a3 a4 a5 a6 a7 a8 a9 a10 a11))from rfl),q_ h2,q_ h3,q_ (show(rodN C (fun i=>dV a5 a6 a7 a9 a8 a10 i) a11 (dN a1 a2 a3 a4 a5 a6 a7 a8 a9 a10 a11))=(rodN C (fun i=>dV a5 a6 a7 a9 a8 a10 i) a11 (dN a1 a2 a3 a4 a5 a6 a7 a8 a9 a10 a11))from rfl),q_ h3,h_ [.draw 17 [15] 1],c_ [] (show S 19 [I a4,I ((toV C ((fun i=>dV a5 a6 a7 a9 a8 a10 i) ((x1-1).toNat)) a11).1),I ((toV C ((fun i=>dV a5 a6 a7 a9 a8 a10 i) x1.toNat) a11).1), .agg [B a10,I ((toV C ((fun i=>dV a5 a6 a7 a9 a8 a10 i) (((((rodN C (fun i=>dV a5 a6 a7 a9 a8 a10 i) a11 (dN a1 a2 a3 a4 a5 a6 a7 a8 a9 a10 a11)):Nat):Int)-1).toNat)) a11).1),I (frq a7), .val (.slice none 0 0)]] [] (RT (partC a4 ((toV C ((fun i=>dV a5 a6 a7 a9 a8 a10 i) ((x1-1).toNat)) a11).1) ((toV C ((fun i=>dV a5 a6 a7 a9 a8 a10 i) x1.toNat) a11).1) a10 ((toV C ((fun i=>dV a5 a6 a7 a9 a8 a10 i) (((((rodN C (fun i=>dV a5 a6 a7 a9 a8 a10 i) a11 (dN a1 a2 a3 a4 a5 a6 a7 a8 a9 a10 a11)):Nat):Int)-1).toNat)) a11).1) (frq a7) 0 (fun _=>0))) []from rPartN h4),q_ (show(I ((partC a4 ((toV C ((fun i=>dV a5 a6 a7 a9 a8 a10 i) ((x1-1).toNat)) a11).1) ((toV C ((fun i=>dV a5 a6 a7 a9 a8 a10 i) x1.toNat) a11).1) a10 ((toV C ((fun i=>dV a5 a6 a7 a9 a8 a10 i) (((((rodN C (fun i=>dV a5 a6 a7 a9 a8 a10 i) a11 (dN a1 a2 a3 a4 a5 a6 a7 a8 a9 a10 a11)):Nat):Int)-1).toNat)) a11).1) (frq a7) 0 (fun _=>0)).2.2):SV)=I ((partC a4 ((toV C ((fun i=>dV a5 a6 a7 a9 a8 a10 i) ((x1-1).toNat)) a11).1) ((toV C ((fun i=>dV a5 a6 a7 a9 a8 a10 i) x1.toNat) a11).1) a10 ((toV C ((fun i=>dV a5 a6 a7 a9 a8 a10 i) (((((rodN C (fun i=>dV a5 a6 a7 a9 a8 a10 i) a11 (dN a1 a2 a3 a4 a5 a6 a7 a8 a9 a10 a11)):Nat):Int)-1).toNat)) a11).1) (frq a7) 0 (fun _=>0)).2.2)from rfl),q_ (show(I ((partC a4 ((toV C ((fun i=>dV a5 a6 a7 a9 a8 a10 i) ((x1-1).toNat)) a11).1) ((toV C ((fun i=>dV a5 a6 a7 a9 a8 a10 i) x1.toNat) a11).1) a10 ((toV C ((fun i=>dV a5 a6 a7 a9 a8 a10 i) (((((rodN C (fun i=>dV a5 a6 a7 a9 a8 a10 i) a11 (dN a1 a2 a3 a4 a5 a6 a7 a8 a9 a10 a11)):Nat):Int)-1).toNat)) a11).1) (frq a7) 0 (fun _=>0)).2.2):SV)=I ((partC a4 ((toV C ((fun i=>dV a5 a6 a7 a9 a8 a10 i) ((x1-1).toNat)) a11).1) ((toV C ((fun i=>dV a5 a6 a7 a9 a8 a10 i) x1.toNat) a11).1) a10 ((toV C ((fun i=>dV a5 a6 a7 a9 a8 a10 i) (((((rodN C (fun i=>dV a5 a6 a7 a9 a8 a10 i) a11 (dN a1 a2 a3 a4 a5 a6 a7 a8 a9 a10 a11)):Nat):Int)-1).toNat)) a11).1) (frq a7) 0 (fun _=>0)).2.2)from rfl)] ?_
  by_cases h5:((partC a4 ((toV C ((fun i=>dV a5 a6 a7 a9 a8 a10 i) ((x1-1).toNat)) a11).1) ((toV C ((fun i=>dV a5 a6 a7 a9 a8 a10 i) x1.toNat) a11).1) a10 ((toV C ((fun i=>dV a5 a6 a7 a9 a8 a10 i) (((((rodN C (fun i=>dV a5 a6 a7 a9 a8 a10 i) a11 (dN a1 a2 a3 a4 a5 a6 a7 a8 a9 a10 a11)):Nat):Int)-1).toNat)) a11).1) (frq a7) 0 (fun _=>0)).2.2)=0
  ·obtain⟨q5002,h6,q5003,h7,h8,h9,k⟩:=K5 h5
   exact hX.h 18 [f_ (bne_eq_false_iff_eq.2 h5),q_ (show ∀ k,k<1→(fun i=>[I ((partC a4 ((toV C ((fun i=>dV a5 a6 a7 a9 a8 a10 i) ((x1-1).toNat)) a11).1) ((toV C ((fun i=>dV a5 a6 a7 a9 a8 a10 i) x1.toNat) a11).1) a10 ((toV C ((fun i=>dV a5 a6 a7 a9 a8 a10 i) (((((rodN C (fun i=>dV a5 a6 a7 a9 a8 a10 i) a11 (dN a1 a2 a3 a4 a5 a6 a7 a8 a9 a10 a11)):Nat):Int)-1).toNat)) a11).1) (frq a7) 0 (fun _=>0)).1),I ((partC a4 ((toV C ((fun i=>dV a5 a6 a7 a9 a8 a10 i) ((x1-1).toNat)) a11).1) ((toV C ((fun i=>dV a5 a6 a7 a9 a8 a10 i) x1.toNat) a11).1) a10 ((toV C ((fun i=>dV a5 a6 a7 a9 a8 a10 i) (((((rodN C (fun i=>dV a5 a6 a7 a9 a8 a10 i) a11 (dN a1 a2 a3 a4 a5 a6 a7 a8 a9 a10 a11)):Nat):Int)-1).toNat)) a11).1) (frq a7) 0 (fun _=>0)).2.1)]) k=[[I ((partC a4 ((toV C ((fun i=>dV a5 a6 a7 a9 a8 a10 i) ((x1-1).toNat)) a11).1) ((toV C ((fun i=>dV a5 a6 a7 a9 a8 a10 i) x1.toNat) a11).1) a10 ((toV C ((fun i=>dV a5 a6 a7 a9 a8 a10 i) (((((rodN C (fun i=>dV a5 a6 a7 a9 a8 a10 i) a11 (dN a1 a2 a3 a4 a5 a6 a7 a8 a9 a10 a11)):Nat):Int)-1).toNat)) a11).1) (frq a7) 0 (fun _=>0)).1),I ((partC a4 ((toV C ((fun i=>dV a5 a6 a7 a9 a8 a10 i) ((x1-1).toNat)) a11).1) ((toV C ((fun i=>dV a5 a6 a7 a9 a8 a10 i) x1.toNat) a11).1) a10 ((toV C ((fun i=>dV a5 a6 a7 a9 a8 a10 i) (((((rodN C (fun i=>dV a5 a6 a7 a9 a8 a10 i) a11 (dN a1 a2 a3 a4 a5 a6 a7 a8 a9 a10 a11)):Nat):Int)-1).toNat)) a11).1) (frq a7) 0 (fun _=>0)).2.1)]].getD k []from by intro k hk;match k,hk with|0,_=>rfl|k+1,hk=>omega),q_ (re 1),q_ (re n12_),q_ h8,q_ (show ∀ k,k<n12_+1→(fun i=>[I (q5002 i),I (q5003 i)]) k=if k<n12_ then(fun i=>[I (g1121 i),I (g1122 i)]) k else(fun i=>[I ((partC a4 ((toV C ((fun i=>dV a5 a6 a7 a9 a8 a10 i) ((x1-1).toNat)) a11).1) ((toV C ((fun i=>dV a5 a6 a7 a9 a8 a10 i) x1.toNat) a11).1) a10 ((toV C ((fun i=>dV a5 a6 a7 a9 a8 a10 i) (((((rodN C (fun i=>dV a5 a6 a7 a9 a8 a10 i) a11 (dN a1 a2 a3 a4 a5 a6 a7 a8 a9 a10 a11)):Nat):Int)-1).toNat)) a11).1) (frq a7) 0 (fun _=>0)).1),I ((partC a4 ((toV C ((fun i=>dV a5 a6 a7 a9 a8 a10 i) ((x1-1).toNat)) a11).1) ((toV C ((fun i=>dV a5 a6 a7 a9 a8 a10 i) x1.toNat) a11).1) a10 ((toV C ((fun i=>dV a5 a6 a7 a9 a8 a10 i) (((((rodN C (fun i=>dV a5 a6 a7 a9 a8 a10 i) a11 (dN a1 a2 a3 a4 a5 a6 a7 a8 a9 a10 a11)):Nat):Int)-1).toNat)) a11).1) (frq a7) 0 (fun _=>0)).2.1)]) (k-n12_)from fun k hk=>by
   have e0:=h6 k hk
   have e1:=h7 k hk
   by_cases c:k<n12_
   ·rw[if_pos c]at e0 e1⊢;simp only[e0,e1]
   ·rw[if_neg c]at e0 e1⊢;simp only[e0,e1]),q_ h9,h_ [.row (fun i=>[I ((partC a4 ((toV C ((fun i=>dV a5 a6 a7 a9 a8 a10 i) ((x1-1).toNat)) a11).1) ((toV C ((fun i=>dV a5 a6 a7 a9 a8 a10 i) x1.toNat) a11).1) a10 ((toV C ((fun i=>dV a5 a6 a7 a9 a8 a10 i) (((((rodN C (fun i=>dV a5 a6 a7 a9 a8 a10 i) a11 (dN a1 a2 a3 a4 a5 a6 a7 a8 a9 a10 a11)):Nat):Int)-1).toNat)) a11).1) (frq a7) 0 (fun _=>0)).1),I ((partC a4 ((toV C ((fun i=>dV a5 a6 a7 a9 a8 a10 i) ((x1-1).toNat)) a11).1) ((toV C ((fun i=>dV a5 a6 a7 a9 a8 a10 i) x1.toNat) a11).1) a10 ((toV C ((fun i=>dV a5 a6 a7 a9 a8 a10 i) (((((rodN C (fun i=>dV a5 a6 a7 a9 a8 a10 i) a11 (dN a1 a2 a3 a4 a5 a6 a7 a8 a9 a10 a11)):Nat):Int)-1).toNat)) a11).1) (frq a7) 0 (fun _=>0)).2.1)]), .row (fun i=>[I (q5002 i),I (q5003 i)])]] [.old 0, .old 1, .old 2, .old 1003, .old 4, .old 5, .old 6, .old 7, .old 8, .old 15] k
  ·have HE:=L5 h5
   obtain⟨HE,HN⟩:=HE
   exact((hX.to HE.symm).same HN).e [t_ (bne_iff_ne.2 h5)]
 ·have HE:=K0 h0
  obtain⟨HE,HN⟩:=HE
  exact((hX.to HE.symm).same HN).e [f_ (df h0)] [5,6,12]
theorem refOf_l6 {X:Cx} {t:Tms} {C:Cl} (hX:Fi X 12 (calH C) (plS t C (schE t C)) (plV t C)) (h0:tCk t=0) (hs:tSh t) (hr:fstE (fun i=>(tR t C i).2) (tN t)=0) (h6:t.a4=6∧fstE (fun i=>(tQ t C i).2) (tG t)=0)
  (hc:schE t C=fstE (fun i=>(tP t C i).2.2) (tN t-1)):
  ∀ (f i:Nat),i+f=tN t-1→(∀ j,j<i→(tP t C j).2.2=0)→ ∀ (q1 q2:Nat→Int),(i=0∨(q1=(fun i=>(tP t C i).1)∧q2=(fun i=>(tP t C i).2.1)))→Ok X (refOf_h0 t.a1 t.a2 t.a3 t.a4 t.a5 t.a6 t.a7 t.a8 t.a9 t.a10 t.a11 C (((i+1:Nat):Nat):Int) i q1 q2)
 |0,i,hi,hj,q1,q2,hq=>by
  have hN:=(tN_le h0 hs).1
  have e:schE t C=0:=by rw[hc];exact fstE_no (fun j hj'=>hj j (by omega))
  have eN:rodN C (fun i=>dV t.a5 t.a6 t.a7 t.a9 t.a8 t.a10 i) t.a11 (dN t.a1 t.a2 t.a3 t.a4 t.a5 t.a6 t.a7 t.a8 t.a9 t.a10 t.a11)=tN t:=if_pos hr
  have hP:=the_plan hX e
  rcases hq with hq|⟨rfl,rfl⟩
  ·omega
  have hk:tK t=tG t:=if_pos h6.1
  have eG:rodN C (fun i=>gcV t.a5 t.a6 t.a7 t.a8 t.a10 i) t.a11 (gcN t.a1 t.a2 t.a3 t.a4 t.a5 t.a6 t.a7 t.a8 t.a10 t.a11)=tK t:=by rw[hk];exact if_pos h6.2
  refine refOf_w1 hP ?_
  rw[eN,eG]
  rw[show((((tN t:Nat):Int)-1).toNat)=tN t-1 by omega]
  refine⟨fun c=>absurd c (by omega),fun _=>⟨?_,⟨rfl,rfl,rfl,rfl,fun i _=>rfl⟩,⟨rfl,rfl,rfl,rfl,fun i _=>rfl⟩,⟨rfl,rfl,(show i=tN t-1 by omega),rfl,fun i _=>rfl⟩,⟨rfl,rfl,rfl,rfl,fun i _=>rfl⟩,trivial⟩⟩
  rw[show i=tN t-1 by omega];rfl
 |f+1,i,hi,hj,q1,q2,hq=>by
  have hN:=tN_le h0 hs
  have eN:rodN C (fun i=>dV t.a5 t.a6 t.a7 t.a9 t.a8 t.a10 i) t.a11 (dN t.a1 t.a2 t.a3 t.a4 t.a5 t.a6 t.a7 t.a8 t.a9 t.a10 t.a11)=tN t:=if_pos hr
  have hk:tK t=tG t:=if_pos h6.1
  have eG:rodN C (fun i=>gcV t.a5 t.a6 t.a7 t.a8 t.a10 i) t.a11 (gcN t.a1 t.a2 t.a3 t.a4 t.a5 t.a6 t.a7 t.a8 t.a10 t.a11)=tK t:=by rw[hk];exact if_pos h6.2
  have t1:((((i+1:Nat):Int)).toNat)=i+1:=Int.toNat_natCast _
  have t2:((((i+1:Nat):Int)-1).toNat)=i:=by omega
  have t3:((((tN t:Nat):Int)-1).toNat)=tN t-1:=by omega
  by_cases c:(tP t C i).2.2=0
  ·have step: ∀ {res:SV} {new:List (Option Vw)},Fi X 12 (calH C) res new→Ok X (refOf_h0 t.a1 t.a2 t.a3 t.a4 t.a5 t.a6 t.a7 t.a8 t.a9 t.a10 t.a11 C (((i+1:Nat):Nat):Int) i q1 q2):=by
    intro res new hX'
    refine refOf_w1 hX' ?_
    rw[eN,eG,t1,t2,t3]
    refine⟨fun _=>⟨irT (by omega),by omega,by omega,fun c'=> ?_,fun _=>⟨fun k=>(tP t C k).1,fun k hk=> ?_,fun k=>(tP t C k).2.1,fun k hk=> ?_,by omega,irT (by omega), ?_⟩⟩,fun c=>absurd (show(((i+1:Nat):Nat):Int)<((tN t:Nat):Int)by omega) c⟩
    ·exact absurd c c'
    ·by_cases d:k<i
     ·rw[if_pos d]
      rcases hq with hq|⟨rfl,rfl⟩
      ·omega
      ·rfl
     ·rw[if_neg d,show k=i by omega];rfl
    ·by_cases d:k<i
     ·rw[if_pos d]
      rcases hq with hq|⟨rfl,rfl⟩
      ·omega
      ·rfl
     ·rw[if_neg d,show k=i by omega];rfl
    ·exact refOf_l6 hX h0 hs hr h6 hc f (i+1) (by omega) (fun j h=>by
      rcases Nat.lt_or_ge j i with d|d
      ·exact hj j d
      ·rw[show j=i by omega];exact c) _ _ (.inr ⟨rfl,rfl⟩)
   exact step hX
  ·have e:schE t C=(tP t C i).2.2:=by rw[hc];exact fstE_at (f:=fun i=>(tP t C i).2.2) hj c (by omega)
   have hE:=no_plan rfl hX (by rw[e];exact c)
   rw[e]at hE
   refine refOf_w1 hE ?_
   rw[eN,eG,t1,t2,t3]
   refine⟨fun _=>⟨irT (by omega),by omega,by omega,fun _=>⟨rfl,trivial⟩,fun c'=>absurd c' c⟩,fun c=>absurd (show(((i+1:Nat):Nat):Int)<((tN t:Nat):Int)by omega) c⟩
mutual
theorem refOf_l0b {X:Cx} {t:Tms} {C:Cl} (hX:Fi X 12 (calH C) (plS t C (schE t C)) (plV t C)) (h0:tCk t=0) (hs:tSh t) (hr:fstE (fun i=>(tR t C i).2) (tN t)=0) (h6:t.a4≠6)
  (hc:schE t C=fstE (fun i=>(tP t C i).2.2) (tN t-1)):
  ∀ (f i:Nat),i+f=tN t-1→(∀ j,j<i→(tP t C j).2.2=0)→ ∀ (q1 q2:Nat→Int),(i=0∨(q1=(fun i=>(tP t C i).1)∧q2=(fun i=>(tP t C i).2.1)))→Ok X (refOf_h2 t.a1 t.a2 t.a3 t.a4 t.a5 t.a6 t.a7 t.a8 t.a9 t.a10 t.a11 C (((i+1:Nat):Nat):Int) i q1 q2)
 |0,i,hi,hj,q1,q2,hq=>by
  have hN:=(tN_le h0 hs).1
  have e:schE t C=0:=by rw[hc];exact fstE_no (fun j hj'=>hj j (by omega))
  have eN:rodN C (fun i=>dV t.a5 t.a6 t.a7 t.a9 t.a8 t.a10 i) t.a11 (dN t.a1 t.a2 t.a3 t.a4 t.a5 t.a6 t.a7 t.a8 t.a9 t.a10 t.a11)=tN t:=if_pos hr
  have hk:tK t=0:=if_neg h6
  have hP0:=the_plan hX e
  rw[hk]at hP0
  have hP:=IsFin.nil1 (new:=[ro (tN t) (tD t),ro (tN t) (fun i=>(tR t C i).1),ratV (tN t-1) (tP t C)]) (res':= .tup [.agg [.sl 2 (tN t), .sl 3 (tN t), .sl 4 (tN t-1),B t.a10,I (tE t C),I (frq t.a7), .val (.slice none 0 0)],I 0]) hP0 (fun θ' h=>by have h:θ' 5=_:=h;simp only[den,denL,h])
  rcases hq with hq|⟨rfl,rfl⟩
  ·omega
  have eP: ∀ a b e,partC t.a4 a b t.a10 e (frq t.a7) 0 (fun _=>0)=partC t.a4 a b t.a10 e (frq t.a7) (tK t) (fun i=>(tQ t C i).1):=fun a b e=>(partC_n h6).symm
  refine refOf_w3 hP ?_
  rw[eN]
  rw[show((((tN t:Nat):Int)-1).toNat)=tN t-1 by omega]
  refine⟨fun c=>absurd c (by omega),fun _=>⟨?_,⟨rfl,rfl,rfl,rfl,fun i _=>rfl⟩,⟨rfl,rfl,rfl,rfl,fun i _=>rfl⟩,⟨rfl,rfl,(show i=tN t-1 by omega),rfl,fun i _=>rfl⟩,trivial⟩⟩
  rw[show i=tN t-1 by omega];rfl
 |f+1,i,hi,hj,q1,q2,hq=>by
  have hN:=tN_le h0 hs
  have eN:rodN C (fun i=>dV t.a5 t.a6 t.a7 t.a9 t.a8 t.a10 i) t.a11 (dN t.a1 t.a2 t.a3 t.a4 t.a5 t.a6 t.a7 t.a8 t.a9 t.a10 t.a11)=tN t:=if_pos hr
  have hk:tK t=0:=if_neg h6
  have eP: ∀ a b e,partC t.a4 a b t.a10 e (frq t.a7) 0 (fun _=>0)=partC t.a4 a b t.a10 e (frq t.a7) (tK t) (fun i=>(tQ t C i).1):=fun a b e=>(partC_n h6).symm
  have t1:((((i+1:Nat):Int)).toNat)=i+1:=Int.toNat_natCast _
  have t2:((((i+1:Nat):Int)-1).toNat)=i:=by omega
  have t3:((((tN t:Nat):Int)-1).toNat)=tN t-1:=by omega
  by_cases c:(tP t C i).2.2=0
  ·have step: ∀ {res:SV} {new:List (Option Vw)},Fi X 12 (calH C) res new→Ok X (refOf_h2 t.a1 t.a2 t.a3 t.a4 t.a5 t.a6 t.a7 t.a8 t.a9 t.a10 t.a11 C (((i+1:Nat):Nat):Int) i q1 q2):=by
    intro res new hX'
    refine refOf_w3 hX' ?_
    rw[eN,t1,t2,t3]
    refine⟨fun _=>⟨irT (by omega),by omega,by omega,h6,fun c'=> ?_,fun _=>⟨fun k=>(tP t C k).1,fun k hk=> ?_,fun k=>(tP t C k).2.1,fun k hk=> ?_,by omega,irT (by omega), ?_⟩⟩,fun c=>absurd (show(((i+1:Nat):Nat):Int)<((tN t:Nat):Int)by omega) c⟩
    ·rw[eP]at c';exact absurd c c'
    ·by_cases d:k<i
     ·rw[if_pos d]
      rcases hq with hq|⟨rfl,rfl⟩
      ·omega
      ·rfl
     ·rw[if_neg d,show k=i by omega];rw[eP];rfl
    ·by_cases d:k<i
     ·rw[if_pos d]
      rcases hq with hq|⟨rfl,rfl⟩
      ·omega
      ·rfl
     ·rw[if_neg d,show k=i by omega];rw[eP];rfl
    ·exact refOf_l0 hX h0 hs hr h6 hc f (i+1) (by omega) (fun j h=>by
      rcases Nat.lt_or_ge j i with d|d
      ·exact hj j d
      ·rw[show j=i by omega];exact c) _ _ (.inr ⟨rfl,rfl⟩)
   exact step hX
  ·have e:schE t C=(tP t C i).2.2:=by rw[hc];exact fstE_at (f:=fun i=>(tP t C i).2.2) hj c (by omega)
   have hE:=no_plan rfl hX (by rw[e];exact c)
   rw[e]at hE
   refine refOf_w3 hE ?_
   rw[eN,t1,t2,t3]
   refine⟨fun _=>⟨irT (by omega),by omega,by omega,h6,fun _=>⟨by rw[eP];rfl,trivial⟩,fun c'=>absurd (by rw[eP]at c';exact c') c⟩,fun c=>absurd (show(((i+1:Nat):Nat):Int)<((tN t:Nat):Int)by omega) c⟩
theorem refOf_l0 {X:Cx} {t:Tms} {C:Cl} (hX:Fi X 12 (calH C) (plS t C (schE t C)) (plV t C)) (h0:tCk t=0) (hs:tSh t) (hr:fstE (fun i=>(tR t C i).2) (tN t)=0) (h6:t.a4≠6)
  (hc:schE t C=fstE (fun i=>(tP t C i).2.2) (tN t-1)):
  ∀ (f i:Nat),i+f=tN t-1→(∀ j,j<i→(tP t C j).2.2=0)→ ∀ (q1 q2:Nat→Int),(i=0∨(q1=(fun i=>(tP t C i).1)∧q2=(fun i=>(tP t C i).2.1)))→Ok X (refOf_h1 t.a1 t.a2 t.a3 t.a4 t.a5 t.a6 t.a7 t.a8 t.a9 t.a10 t.a11 C (((i+1:Nat):Nat):Int) i q1 q2)
 |0,i,hi,hj,q1,q2,hq=>by
  have hN:=(tN_le h0 hs).1
  have e:schE t C=0:=by rw[hc];exact fstE_no (fun j hj'=>hj j (by omega))
  have eN:rodN C (fun i=>dV t.a5 t.a6 t.a7 t.a9 t.a8 t.a10 i) t.a11 (dN t.a1 t.a2 t.a3 t.a4 t.a5 t.a6 t.a7 t.a8 t.a9 t.a10 t.a11)=tN t:=if_pos hr
  have hk:tK t=0:=if_neg h6
  have hP0:=the_plan hX e
  rw[hk]at hP0
  have hP:=IsFin.nil1 (new:=[ro (tN t) (tD t),ro (tN t) (fun i=>(tR t C i).1),ratV (tN t-1) (tP t C)]) (res':= .tup [.agg [.sl 2 (tN t), .sl 3 (tN t), .sl 4 (tN t-1),B t.a10,I (tE t C),I (frq t.a7), .val (.slice none 0 0)],I 0]) hP0 (fun θ' h=>by have h:θ' 5=_:=h;simp only[den,denL,h])
  rcases hq with hq|⟨rfl,rfl⟩
  ·omega
  have eP: ∀ a b e,partC t.a4 a b t.a10 e (frq t.a7) 0 (fun _=>0)=partC t.a4 a b t.a10 e (frq t.a7) (tK t) (fun i=>(tQ t C i).1):=fun a b e=>(partC_n h6).symm
  refine refOf_w2 hP ?_
  rw[eN]
  rw[show((((tN t:Nat):Int)-1).toNat)=tN t-1 by omega]
  refine⟨fun c=>absurd c (by omega),fun _=>⟨?_,⟨rfl,rfl,rfl,rfl,fun i _=>rfl⟩,⟨rfl,rfl,rfl,rfl,fun i _=>rfl⟩,⟨rfl,rfl,(show i=tN t-1 by omega),rfl,fun i _=>rfl⟩,trivial⟩⟩
  rw[show i=tN t-1 by omega];rfl
 |f+1,i,hi,hj,q1,q2,hq=>by
  have hN:=tN_le h0 hs
  have eN:rodN C (fun i=>dV t.a5 t.a6 t.a7 t.a9 t.a8 t.a10 i) t.a11 (dN t.a1 t.a2 t.a3 t.a4 t.a5 t.a6 t.a7 t.a8 t.a9 t.a10 t.a11)=tN t:=if_pos hr
  have hk:tK t=0:=if_neg h6
  have eP: ∀ a b e,partC t.a4 a b t.a10 e (frq t.a7) 0 (fun _=>0)=partC t.a4 a b t.a10 e (frq t.a7) (tK t) (fun i=>(tQ t C i).1):=fun a b e=>(partC_n h6).symm
  have t1:((((i+1:Nat):Int)).toNat)=i+1:=Int.toNat_natCast _
  have t2:((((i+1:Nat):Int)-1).toNat)=i:=by omega
  have t3:((((tN t:Nat):Int)-1).toNat)=tN t-1:=by omega
  by_cases c:(tP t C i).2.2=0
  ·have step: ∀ {res:SV} {new:List (Option Vw)},Fi X 12 (calH C) res new→Ok X (refOf_h1 t.a1 t.a2 t.a3 t.a4 t.a5 t.a6 t.a7 t.a8 t.a9 t.a10 t.a11 C (((i+1:Nat):Nat):Int) i q1 q2):=by
    intro res new hX'
    refine refOf_w2 hX' ?_
    rw[eN,t1,t2,t3]
    refine⟨fun _=>⟨irT (by omega),by omega,by omega,h6,fun c'=> ?_,fun _=>⟨fun k=>(tP t C k).1,fun k hk=> ?_,fun k=>(tP t C k).2.1,fun k hk=> ?_,by omega,irT (by omega), ?_⟩⟩,fun c=>absurd (show(((i+1:Nat):Nat):Int)<((tN t:Nat):Int)by omega) c⟩
    ·rw[eP]at c';exact absurd c c'
    ·by_cases d:k<i
     ·rw[if_pos d]
      rcases hq with hq|⟨rfl,rfl⟩
      ·omega
      ·rfl
     ·rw[if_neg d,show k=i by omega];rw[eP];rfl
    ·by_cases d:k<i
     ·rw[if_pos d]
      rcases hq with hq|⟨rfl,rfl⟩
      ·omega
      ·rfl
     ·rw[if_neg d,show k=i by omega];rw[eP];rfl
    ·exact refOf_l0b hX h0 hs hr h6 hc f (i+1) (by omega) (fun j h=>by
      rcases Nat.lt_or_ge j i with d|d
      ·exact hj j d
      ·rw[show j=i by omega];exact c) _ _ (.inr ⟨rfl,rfl⟩)
   exact step hX
  ·have e:schE t C=(tP t C i).2.2:=by rw[hc];exact fstE_at (f:=fun i=>(tP t C i).2.2) hj c (by omega)
   have hE:=no_plan rfl hX (by rw[e];exact c)
   rw[e]at hE
   refine refOf_w2 hE ?_
   rw[eN,t1,t2,t3]
   refine⟨fun _=>⟨irT (by omega),by omega,by omega,h6,fun _=>⟨by rw[eP];rfl,trivial⟩,fun c'=>absurd (by rw[eP]at c';exact c') c⟩,fun c=>absurd (show(((i+1:Nat):Nat):Int)<((tN t:Nat):Int)by omega) c⟩
end
theorem rOf17 (t:Tms) {C:Cl} (hs:tSh t) (hC:CalOk C):S 12 [tmL t,calL C] (calH C) (plS t C (schE t C)) (plV t C):=by
 refine SCall.st fun X hX=> ?_
 by_cases h0:tCk t=0
 ·have hN:=tN_le h0 hs
  have hG:=tG_le h0 hs
  by_cases hr:fstE (fun i=>(tR t C i).2) (tN t)=0
  ·have eN:rodN C (fun i=>dV t.a5 t.a6 t.a7 t.a9 t.a8 t.a10 i) t.a11 (dN t.a1 t.a2 t.a3 t.a4 t.a5 t.a6 t.a7 t.a8 t.a9 t.a10 t.a11)=tN t:=if_pos hr
   by_cases h6:t.a4=6
   ·by_cases hg:fstE (fun i=>(tQ t C i).2) (tG t)=0
    ·have hc:schE t C=fstE (fun i=>(tP t C i).2.2) (tN t-1):=by unfold schE;rw[if_neg (by rw[h0];decide),if_neg (by rw[hr];decide),if_neg (by rintro ⟨-,c⟩;exact c hg)]
     refine refOf_w0 hX ⟨hs,fun c=>absurd h0 c,fun _=>⟨hC,show tN t≤10000 by omega,fun i hi=>tD_day h0 hs hi,fun c=>absurd hr c,fun _=> ?_⟩⟩
     rw[eN]
     exact⟨irT (by omega),by omega,fun _=>⟨show tG t≤10000 by omega,fun i hi=>tV_day h0 hs hi,fun c=>absurd hg c,fun _=>refOf_l6 hX h0 hs hr ⟨h6,hg⟩ hc (tN t-1) 0 (by omega) (fun j h=>absurd h (Nat.not_lt_zero _)) _ _ (.inl rfl)⟩,fun c=>absurd h6 c⟩
    ·have e:schE t C=fstE (fun i=>(tQ t C i).2) (tG t):=by unfold schE;rw[if_neg (by rw[h0];decide),if_neg (by rw[hr];decide),if_pos ⟨h6,hg⟩]
     have hE:=no_plan rfl hX (by rw[e];exact hg)
     rw[e]at hE
     refine refOf_w0 hE ⟨hs,fun c=>absurd h0 c,fun _=>⟨hC,show tN t≤10000 by omega,fun i hi=>tD_day h0 hs hi,fun c=>absurd hr c,fun _=> ?_⟩⟩
     rw[eN]
     exact⟨irT (by omega),by omega,fun _=>⟨show tG t≤10000 by omega,fun i hi=>tV_day h0 hs hi,fun _=>⟨rfl,trivial⟩,fun c=>absurd c hg⟩,fun c=>absurd h6 c⟩
   ·have hc:schE t C=fstE (fun i=>(tP t C i).2.2) (tN t-1):=by unfold schE;rw[if_neg (by rw[h0];decide),if_neg (by rw[hr];decide),if_neg (by rintro ⟨c, -⟩;exact h6 c)]
    refine refOf_w0 hX ⟨hs,fun c=>absurd h0 c,fun _=>⟨hC,show tN t≤10000 by omega,fun i hi=>tD_day h0 hs hi,fun c=>absurd hr c,fun _=> ?_⟩⟩
    rw[eN]
    exact⟨irT (by omega),by omega,fun c=>absurd c h6,fun _=>refOf_l0 hX h0 hs hr h6 hc (tN t-1) 0 (by omega) (fun j h=>absurd h (Nat.not_lt_zero _)) _ _ (.inl rfl)⟩
  ·have e:schE t C=fstE (fun i=>(tR t C i).2) (tN t):=by unfold schE;rw[if_neg (by rw[h0];decide),if_pos hr]
   have hE:=no_plan rfl hX (by rw[e];exact hr)
   rw[e]at hE
   exact refOf_w0 hE ⟨hs,fun c=>absurd h0 c,fun _=>⟨hC,show tN t≤10000 by omega,fun i hi=>tD_day h0 hs hi,fun _=>⟨rfl,trivial⟩,fun c=>absurd c hr⟩⟩
 ·have e:schE t C=tCk t:=if_pos h0
  have hE:=no_plan rfl hX (by rw[e];exact h0)
  rw[e]at hE
  exact refOf_w0 hE ⟨hs,fun _=>⟨rfl,trivial⟩,fun c=>absurd c h0⟩
noncomputable def refPts_h0 (n1:Nat) (g2:Nat→Int) (g3:Nat→Int) (n4:Nat) (g5:Nat→Int) (g6:Nat→Int) (x1:Int):SC:=
 ⟨[⟨22,slo 26 [(0, .sl 0 n1),(1, .sl 1 n4),(5,I x1)],[.code (bodyAt Tryz.f22 [1,1,0,1,0,0]), .inLoop (bodyAt Tryz.f22 [1,1,0,1,0,0]), .inBlock 0, .code (bodyAt Tryz.f22 [1,1,1])],{}⟩],[some (.row false 48 n1 2 (fun i=>[I (g2 i),I (g3 i)])),some (.row false 48 n4 2 (fun i=>[I (g5 i),I (g6 i)]))]⟩
theorem refPts_w0 {X:Cx} {n1:Nat} {g2 g3:Nat→Int} {n4:Nat} {g5 g6:Nat→Int} {res:SV} (hX:Fi X 22 [some (.row false 48 n1 2 (fun i=>[I (g2 i),I (g3 i)])),some (.row false 48 n4 2 (fun i=>[I (g5 i),I (g6 i)]))] (res) []) (H:(((n1:Nat):Int)≠((n4:Nat):Int)→(B false:SV)=res)∧(((n1:Nat):Int)=((n4:Nat):Int)→Ok X (refPts_h0 n1 g2 g3 n4 g5 g6 0))):
  Ok X (entry Tryz.prog 22 [.sl 0 n1, .sl 1 n4] [some (.row false 48 n1 2 (fun i=>[I (g2 i),I (g3 i)])),some (.row false 48 n4 2 (fun i=>[I (g5 i),I (g6 i)]))]):=by
 obtain⟨L0,K0⟩:=H
 by_cases h0:((n1:Nat):Int)=((n4:Nat):Int)
 ·have k:=K0 h0
  exact hX.h 22 [f_ (bne_eq_false_iff_eq.2 h0)] (oldM 2) k
 ·have HE:=L0 h0
  exact(hX.to HE.symm).e [t_ (bne_iff_ne.2 h0)]
theorem refPts_w1 {X:Cx} {n1:Nat} {g2 g3:Nat→Int} {n4:Nat} {g5 g6:Nat→Int} {x1:Int} {res:SV} (hX:Fi X 22 [some (.row false 48 n1 2 (fun i=>[I (g2 i),I (g3 i)])),some (.row false 48 n4 2 (fun i=>[I (g5 i),I (g6 i)]))] (res) []) (H:(x1<((n1:Nat):Int)→((0:Int)≤x1∧x1<((n1:Nat):Int))∧((0:Int)≤x1∧x1<((n4:Nat):Int))∧((((g2 x1.toNat)==(g5 x1.toNat))&&(((g3 x1.toNat)==(g6 x1.toNat))&&true))=false→(B false:SV)=res)∧((((g2 x1.toNat)==(g5 x1.toNat))&&(((g3 x1.toNat)==(g6 x1.toNat))&&true))=true→Ir (x1+1)∧Ok X (refPts_h0 n1 g2 g3 n4 g5 g6 (x1+1))))∧(¬x1<((n1:Nat):Int)→(B true:SV)=res)):
  Ok X (refPts_h0 n1 g2 g3 n4 g5 g6 x1):=by
 obtain⟨L0,K0⟩:=H
 by_cases h0:x1<((n1:Nat):Int)
 ·obtain⟨h1,h2,L3,K3⟩:=L0 h0
  refine hX.go [t_ (dt h0),q_ h1,q_ (re n1),q_ h1,q_ h2,q_ (re n4),q_ h2,d_ 8] ?_
  rcases bcase (((g2 x1.toNat)==(g5 x1.toNat))&&(((g3 x1.toNat)==(g6 x1.toNat))&&true))with h3|h3
  ·obtain⟨h4,k⟩:=K3 h3
   exact hX.h 9 [f_ (nf h3),q_ h4] (oldM 2) k
  ·have HE:=L3 h3
   exact(hX.to HE.symm).e [t_ (nt h3)]
 ·have HE:=K0 h0
  exact(hX.to HE.symm).e [f_ (df h0)]
theorem refPts_l {X:Cx} {n:Nat} {g2 g3 g5 g6:Nat→Int} {res:SV} (hX:Fi X 22 [some (.row false 48 n 2 (fun i=>[I (g2 i),I (g3 i)])),some (.row false 48 n 2 (fun i=>[I (g5 i),I (g6 i)]))] res []) (hn:n≤10000)
  (hr:B (decide (n=n∧ ∀ i,i<n→g2 i=g5 i∧g3 i=g6 i))=res): ∀ (f i:Nat),i+f=n→(∀ j,j<i→g2 j=g5 j∧g3 j=g6 j)→Ok X (refPts_h0 n g2 g3 n g5 g6 (i:Int))
 |0,i,hi,hj=>refPts_w1 hX ⟨fun c=>absurd c (by omega),fun _=>by rw[←hr,decide_eq_true ⟨rfl,fun j h=>hj j (by omega)⟩]⟩
 |f+1,i,hi,hj=>by
  have ti:((i:Int)).toNat=i:=Int.toNat_natCast _
  refine refPts_w1 hX ⟨fun _=> ?_,fun c=>absurd (show(i:Int)<((n:Nat):Int)by omega) c⟩
  rw[ti]
  refine⟨by omega,by omega,fun c=> ?_,fun c=>⟨irT (by omega),refPts_l hX hn hr f (i+1) (by omega) (fun j h=> ?_)⟩⟩
  ·rw[←hr,decide_eq_false (fun q=>by have:=q.2 i (by omega);simp[this.1,this.2]at c)]
  ·rcases Nat.lt_or_ge j i with d|d
   ·exact hj j d
   ·rw[show j=i by omega];simp at c;exact c
theorem rParts {n m:Nat} {g2 g3 g5 g6:Nat→Int} (hn:n≤10000):S 22 [.sl 0 n, .sl 1 m] [some (.row false 48 n 2 (fun i=>[I (g2 i),I (g3 i)])),some (.row false 48 m 2 (fun i=>[I (g5 i),I (g6 i)]))] (B (decide (n=m∧ ∀ i,i<n→g2 i=g5 i∧g3 i=g6 i))) []:=by
 refine SCall.st fun X hX=>refPts_w0 hX ⟨fun c=> ?_,fun c=> ?_⟩
 ·rw[decide_eq_false (fun q=>c (by rw[q.1]))]
 ·have e:n=m:=by omega
  subst e
  exact refPts_l hX hn rfl n 0 (by omega) (fun j h=>absurd h (Nat.not_lt_zero _))
theorem refShW_w {a1 a2 a3 a4 a5 a6 a7:Int} {a8 a9 a10:Bool} {a11 a12:Int} {res:SV} (H:Ir (31*a12)∧((IntKind.wrap .i64 (a6-a5))≤(31*a12)→(B (decide (a5≤a6)):SV)=res)∧(¬(IntKind.wrap .i64 (a6-a5))≤(31*a12)→(B false:SV)=res)):
  S 25 [.agg [I a1,I a2,I a3,I a4,I a5,I a6,I a7,B a8,B a9,B a10,I a11],I a12] [] (res) []:=by
 refine SCall.st fun X hX=> ?_
 obtain⟨h0,L1,K1⟩:=H
 refine hX.go [q_ h0,h_ [.w, .t]] ?_
 by_cases h1:(IntKind.wrap .i64 (a6-a5))≤(31*a12)
 ·have HE:=L1 h1
  exact(hX.to HE.symm).e [n_ 6 (t_ (dt h1))]
 ·have HE:=K1 h1
  exact(hX.to HE.symm).e [n_ 6 (f_ (df h1))]
def shW (s e k:Int):Bool:=decide (IntKind.wrap .i64 (e-s)≤31*k∧s≤e)
theorem shW_eq {s e k:Int} (h:Ir (e-s)):shW s e k=shB s e k:=by unfold shW shB;rw[wrap_InR h]
theorem rShortW (a1 a2 a3 a4 a5 a6 a7:Int) (a8 a9 a10:Bool) (a11 k:Int) (h1:Ir (31*k)):
  S 25 [.agg [I a1,I a2,I a3,I a4,I a5,I a6,I a7,B a8,B a9,B a10,I a11],I k] [] (B (shW a5 a6 k)) []:=by
 refine refShW_w ⟨h1,fun c=> ?_,fun c=> ?_⟩
 ·rw[show shW a5 a6 k=decide (a5≤a6)by unfold shW;rw[decide_eq_decide];constructor<;>intro h<;>first|exact h.2|exact⟨c,h⟩]
 ·rw[show shW a5 a6 k=false from decide_eq_false (fun h=>c h.1)]
theorem refSh_w {a1 a2 a3 a4 a5 a6 a7:Int} {a8 a9 a10:Bool} {a11:Int} {C:Cl} {m:Int} {res:SV} (H:((fewB C)=false→(B false:SV)=res)∧((fewB C)=true→((calMay C)=false→(B false:SV)=res)∧((calMay C)=true→Ir (31*m)∧((chk a1 a2 a3 a4 a5 a6 a7 a11)≠0→(B true:SV)=res)∧((chk a1 a2 a3 a4 a5 a6 a7 a11)=0→(B (shW a5 a6 m):SV)=res)))):
  S 10 [.agg [I a1,I a2,I a3,I a4,I a5,I a6,I a7,B a8,B a9,B a10,I a11], .agg [B (C.off 0),B (C.off 1),B (C.off 2),B (C.off 3),B (C.off 4),B (C.off 5),B (C.off 6), .sl 0 C.nr, .sl 1 C.nd],I m] (calH C) (res) []:=by
 refine SCall.st fun X hX=> ?_
 obtain⟨L0,K0⟩:=H
 refine hX.go [c_ [0,1] (show S 23 [.agg [B (C.off 0),B (C.off 1),B (C.off 2),B (C.off 3),B (C.off 4),B (C.off 5),B (C.off 6), .sl 0 C.nr, .sl 1 C.nd]] (calH C) (B (fewB C)) []from refFew),c_ [0,1] (show S 24 [.agg [B (C.off 0),B (C.off 1),B (C.off 2),B (C.off 3),B (C.off 4),B (C.off 5),B (C.off 6), .sl 0 C.nr, .sl 1 C.nd]] (calH C) (B (calMay C)) []from refMay)] ?_
 rcases bcase (fewB C)with h0|h0
 ·obtain⟨L1,K1⟩:=K0 h0
  refine hX.go [n_ 3 (f_ (nf h0))] ?_
  rcases bcase (calMay C)with h1|h1
  ·obtain⟨h2,L3,K3⟩:=K1 h1
   refine hX.go [f_ (nf h1),c_ [] (rCheck a1 a2 a3 a4 a5 a6 a7 a8 a9 a10 a11),c_ [] (show S 25 [.agg [I a1,I a2,I a3,I a4,I a5,I a6,I a7,B a8,B a9,B a10,I a11],I m] [] (B (shW a5 a6 m)) []from rShortW _ _ _ _ _ _ _ _ _ _ _ _ h2)] ?_
   by_cases h3:(chk a1 a2 a3 a4 a5 a6 a7 a11)=0
   ·have HE:=K3 h3
    exact(hX.to HE.symm).e [f_ (bne_eq_false_iff_eq.2 h3),f_ (bne_eq_false_iff_eq.2 h3)]
   ·have HE:=L3 h3
    exact(hX.to HE.symm).e [t_ (bne_iff_ne.2 h3),t_ (bne_iff_ne.2 h3)]
  ·have HE:=L1 h1
   exact(hX.to HE.symm).e [t_ (nt h1)]
 ·have HE:=L0 h0
  exact(hX.to HE.symm).e [n_ 3 (t_ (nt h0)),t_ rt]
noncomputable def shP (t:Tms) (C:Cl) (m:Int):Bool:=fewB C&&(calMay C&&(decide (tCk t≠0)||shW t.a5 t.a6 m))
theorem tCk_ir {t:Tms} (h:tCk t=0):Ir (t.a6-t.a5):=by
 have hL:=tCk_loan h
 have d1:=isDay_iff.1 hL.ds
 have d2:=isDay_iff.1 hL.de
 exact irT (by omega)
theorem shP_t {t:Tms} {C:Cl} {m:Int} (h:shP t C m=true) (hm:m≤200):CalOk C∧tSh t∧(tCk t=0→t.a6-t.a5≤31*m):=by
 unfold shP at h
 simp only[Bool.and_eq_true,Bool.or_eq_true,decide_eq_true_eq]at h
 obtain⟨-,h2,h3⟩:=h
 have k:tCk t=0→t.a6-t.a5≤31*m:=fun c=>by
  have h4:=h3.resolve_left (fun d=>d c)
  rw[shW_eq (tCk_ir c)]at h4
  exact(shB_t h4).1
 exact⟨calMay_t.1 h2,fun c=>by have:=k c;have:=(tCk_loan c).m1;omega,k⟩
theorem rShort17 (t:Tms) {C:Cl} {m:Int} (hm:0≤m∧m≤1000):S 10 [tmL t,calL C,I m] (calH C) (B (shP t C m)) []:=by
 unfold shP
 refine refSh_w ⟨fun c=>by rw[c];rfl,fun c=>⟨fun d=>by rw[c,d];rfl,fun d=> ?_⟩⟩
 rw[c,d]
 exact⟨irT (by omega),fun e=>by rw[decide_eq_true (show tCk t≠0 from e)];rfl,fun e=>by rw[decide_eq_false (show¬tCk t≠0 from fun z=>z e)];rfl⟩
end Go.Proofs.YtgojmodiaffcbaaGreatDoor
