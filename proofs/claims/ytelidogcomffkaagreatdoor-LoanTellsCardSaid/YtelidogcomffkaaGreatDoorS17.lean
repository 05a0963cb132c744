/-
Chapter 17's laws: what they lean on.
-/
import Derived.Test.YtelidogcomffkaaGreatDoorSp
import Derived.Test.YtelidogcomffkaaGreatDoorProg
import Derived.KernelRfl
set_option linter.unusedSectionVars false
set_option linter.unusedSimpArgs false
set_option linter.unusedVariables false
set_option maxRecDepth 100000
namespace Go.Proofs.YtelidogcomffkaaGreatDoor
open Go Go.Sx
variable [dc]
noncomputable def px (C:Cl) (g:Nat→Int) (k:Int) (n:Nat):Int:=dW (fun i=>(aD C (g i) k).2) n
noncomputable def aw (C:Cl) (g:Nat→Int) (k:Int) (n:Nat):Nat:=if px C g k n=0 then n else 0
noncomputable def qe (C:Cl) (n:Nat) (g:Nat→Int) (a1:Int) (x1:Int) (n4_:Nat) (g1041:Nat→Int):SC:=
 ⟨[⟨55,bJ 36 [(1, .sl 2 n),(2,I a1),(3, .ptr 3 0),(8, .sl 4 n4_),(9,I x1)],[.code (aa Tryz.f55 [1,1,0,1,0,0]), .inLoop (aa Tryz.f55 [1,1,0,1,0,0]), .inBlock 0, .code (aa Tryz.f55 [1,1,1])],{}⟩],[some (.row false 109 C.nr 8 (fun i=>[I ((C.R i).kind),I ((C.R i).aY),I ((C.R i).day),I ((C.R i).k),I ((C.R i).off),I ((C.R i).sh),I ((C.R i).fr),I ((C.R i).to)])),some (.row false 3 C.nd 1 (fun i=>[I (C.D i)])),ri n g,some (.box true [B (C.off 0),B (C.off 1),B (C.off 2),B (C.off 3),B (C.off 4),B (C.off 5),B (C.off 6), .sl 0 C.nr, .sl 1 C.nd]),ro n4_ g1041]⟩
theorem Dg {X:Cx} {C:Cl} {n:Nat} {g:Nat→Int} {a1:Int} {res:SV} {new:List (Option Vw)} (hX:Fi X 55 [some (.row false 109 C.nr 8 (fun i=>[I ((C.R i).kind),I ((C.R i).aY),I ((C.R i).day),I ((C.R i).k),I ((C.R i).off),I ((C.R i).sh),I ((C.R i).fr),I ((C.R i).to)])),some (.row false 3 C.nd 1 (fun i=>[I (C.D i)])),ri n g] (res) new) (H:Ok X (qe C n g a1 0 0 (fun _=>default))):
  Ok X (entry Tryz.prog 55 [.agg [B (C.off 0),B (C.off 1),B (C.off 2),B (C.off 3),B (C.off 4),B (C.off 5),B (C.off 6), .sl 0 C.nr, .sl 1 C.nd], .sl 2 n,I a1] [some (.row false 109 C.nr 8 (fun i=>[I ((C.R i).kind),I ((C.R i).aY),I ((C.R i).day),I ((C.R i).k),I ((C.R i).off),I ((C.R i).sh),I ((C.R i).fr),I ((C.R i).to)])),some (.row false 3 C.nd 1 (fun i=>[I (C.D i)])),ri n g]):=by
 have k:=H
 exact hX.h 17 [] [.ae 0, .ae 1, .ae 2, .ae 3, .nil 1] k
theorem tc {X:Cx} {C:Cl} {n:Nat} {g:Nat→Int} {a1 x1:Int} {n4_:Nat} {g1041:Nat→Int} {res:SV} {new:List (Option Vw)} (hX:Fi X 55 [some (.row false 109 C.nr 8 (fun i=>[I ((C.R i).kind),I ((C.R i).aY),I ((C.R i).day),I ((C.R i).k),I ((C.R i).off),I ((C.R i).sh),I ((C.R i).fr),I ((C.R i).to)])),some (.row false 3 C.nd 1 (fun i=>[I (C.D i)])),ri n g] (res) new) (H:(x1<((n:Nat):Int)→((0:Int)≤x1∧x1<((n:Nat):Int))∧bU C∧fJ (g x1.toNat)∧(((aD C (g x1.toNat) a1).2)≠0→(((.af [.val (.slice none 0 0),I ((aD C (g x1.toNat) a1).2)]):SV)=res)∧aG [] new)∧(((aD C (g x1.toNat) a1).2)=0→ ∃ q5002:Nat→Int,(∀ k,k<(n4_+1)→q5002 k=if k<n4_ then(g1041 k)else((aD C (g x1.toNat) a1).1))∧(n4_+1)*8≤140737488355328∧Ir (x1+1)∧Ok X (qe C n g a1 (x1+1) (n4_+1) q5002)))∧(¬x1<((n:Nat):Int)→(((.af [.sl 3 n4_,I 0]):SV)=res)∧aG [ro n4_ g1041] new)):
  Ok X (qe C n g a1 x1 n4_ g1041):=by
 obtain⟨L0,K0⟩:=H
 by_cases h0:x1<((n:Nat):Int)
 ·obtain⟨h1,h2,h3,L4,K4⟩:=L0 h0
  refine hX.go [t_ (dt h0),q_ h1,q_ (re n),q_ h1,d_ 11,c_ [0,1] (show S 26 [.agg [B (C.off 0),B (C.off 1),B (C.off 2),B (C.off 3),B (C.off 4),B (C.off 5),B (C.off 6), .sl 0 C.nr, .sl 1 C.nd],I (g x1.toNat),I a1] (aB C) (.af [I ((aD C (g x1.toNat) a1).1),I ((aD C (g x1.toNat) a1).2)]) []from MF h2 h3)] ?_
  by_cases h4:((aD C (g x1.toNat) a1).2)=0
  ·obtain⟨q5002,h5,h6,h7,k⟩:=K4 h4
   exact hX.h 16 [f_ (bne_eq_false_iff_eq.2 h4),q_ (show ∀ k,k<1→(fun i=>[I ((aD C (g x1.toNat) a1).1)]) k=[[I ((aD C (g x1.toNat) a1).1)]].getD k []from by intro k hk;match k,hk with|0,_=>rfl|k+1,hk=>omega),q_ (re 1),q_ (re n4_),q_ h6,q_ (show ∀ k,k<n4_+1→(fun i=>[I (q5002 i)]) k=if k<n4_ then(fun i=>[I (g1041 i)]) k else(fun i=>[I ((aD C (g x1.toNat) a1).1)]) (k-n4_)from fun k hk=>by
   have e0:=h5 k hk
   by_cases c:k<n4_
   ·simp_all
   ·rw[if_neg c]at e0⊢;simp only[e0]),q_ h7,h_ [.row (fun i=>[I ((aD C (g x1.toNat) a1).1)]), .row (fun i=>[I (q5002 i)])]] [.ae 0, .ae 1, .ae 2, .ae 3, .ae 6] k
  ·have HE:=L4 h4
   obtain⟨HE,HN⟩:=HE
   exact((hX.to HE.symm).same HN).e [t_ (bne_iff_ne.2 h4)]
 ·have HE:=K0 h0
  obtain⟨HE,HN⟩:=HE
  exact((hX.to HE.symm).same HN).e [f_ (df h0)] [4]
theorem A8 {X:Cx} {C:Cl} {n:Nat} {g:Nat→Int} {k:Int} (hX:Fi X 55 (aB C++[ri n g]) (.af [.sl 3 (aw C g k n),I (px C g k n)]) [ro (aw C g k n) (fun i=>(aD C (g i) k).1)])
  (hC:bU C) (hn:n≤10000) (hd: ∀ i,i<n→ai (g i)=true): ∀ (f i:Nat),i+f=n→(∀ j,j<i→(aD C (g j) k).2=0)→ ∀ (q:Nat→Int),(i=0∨q=(fun i=>(aD C (g i) k).1))→Ok X (qe C n g k (i:Int) i q)
 |0,i,hi,hj,q,hq=>by
  have e:px C g k n=0:=fW (fun j h=>hj j (by omega))
  have eN:aw C g k n=i:=by unfold aw;rw[if_pos e];omega
  refine tc hX ⟨fun c=>absurd c (by omega),fun _=>⟨by rw[e,eN], ?_⟩⟩
  rw[eN]
  refine⟨⟨rfl,rfl,rfl,rfl,fun z hz=> ?_⟩,trivial⟩
  grind
 |f+1,i,hi,hj,q,hq=>by
  have ti:((i:Int)).toNat=i:=Int.toNat_natCast _
  by_cases c:(aD C (g i) k).2=0
  ·refine tc hX ⟨fun _=> ?_,fun c=>absurd (show(i:Int)<((n:Nat):Int)by omega) c⟩
   rw[ti]
   refine⟨by omega,hC,fJ.of (hd i (by omega)),fun c'=>absurd c c',fun _=>⟨fun z=>(aD C (g z) k).1,fun z hz=> ?_,by omega,aT (by omega), ?_⟩⟩
   ·grind
   ·exact A8 hX hC hn hd f (i+1) (by omega) (fun j h=>by
     rcases Nat.lt_or_ge j i with d|d
     ·exact hj j d
     ·rw[show j=i by omega];exact c) _ (.inr rfl)
  ·have e:px C g k n=(aD C (g i) k).2:=gY (f:=fun i=>(aD C (g i) k).2) hj c (by omega)
   have eN:aw C g k n=0:=by unfold aw;rw[if_neg (by rw[e];exact c)]
   rw[eN,e]at hX
   have h0:=av.zH (new:=[]) (res':= .af [.val (.slice none 0 0),I (aD C (g i) k).2]) hX (fun θ' h=>by have h:θ' 3=_:=h;simp only[den,ax,h])
   refine tc h0 ⟨fun _=> ?_,fun c=>absurd (show(i:Int)<((n:Nat):Int)by omega) c⟩
   rw[ti]
   exact⟨by omega,hC,fJ.of (hd i (by omega)),fun _=>⟨rfl,trivial⟩,fun c'=>absurd c' c⟩
theorem Bb {C:Cl} {n:Nat} {g:Nat→Int} {k:Int} (hC:bU C) (hn:n≤10000) (hd: ∀ i,i<n→ai (g i)=true):
  S 55 [qY C, .sl 2 n,I k] (aB C++[ri n g]) (.af [.sl 3 (aw C g k n),I (px C g k n)]) [ro (aw C g k n) (fun i=>(aD C (g i) k).1)]:=
 ab.st fun X hX=>Dg hX (A8 hX hC hn hd n 0 (by omega) (fun j h=>absurd h (Nat.not_lt_zero _)) _ (.inl rfl))
theorem zq {a1 a2 a3:Int} {a4:Bool} {a5 a6:Int} {res:SV} (H:(a1=0→(RT (kL a2 a3 a4):SV)=res)∧(a1≠0→(a1=1→(RT (xl a2 a3):SV)=res)∧(a1≠1→(a1=2→(RT (dm a2 a3 a5):SV)=res)∧(a1≠2→(a1=3→(RT (r8 a2 a3 360):SV)=res)∧(a1≠3→(a1=4→(RT (r8 a2 a3 365):SV)=res)∧(a1≠4→(a1=5→(RT (Bh a2 a3):SV)=res)∧(a1≠5→a1≠6∧((.af [.agg [I 0,I 0],I 1]):SV)=res))))))):
  S 57 [I a1,I a2,I a3, .agg [B a4,I a5,I a6, .val (.slice none 0 0)]] [] (res) []:=by
 refine ab.st fun X hX=> ?_
 obtain⟨L0,K0⟩:=H
 by_cases h0:a1=0
 ·have HE:=L0 h0
  exact(hX.to HE.symm).e [t_ (beq_iff_eq.2 h0),c_ [] (show S 81 [I a2,I a3,B a4] [] (RT (kL a2 a3 a4)) []from Dp _ _ _)]
 ·obtain⟨L1,K1⟩:=K0 h0
  refine hX.go [f_ (beq_eq_false_iff_ne.2 h0)] ?_
  by_cases h1:a1=1
  ·have HE:=L1 h1
   exact(hX.to HE.symm).e [t_ (beq_iff_eq.2 h1),c_ [] (show S 82 [I a2,I a3] [] (RT (xl a2 a3)) []from G0 _ _)]
  ·obtain⟨L2,K2⟩:=K1 h1
   refine hX.go [f_ (beq_eq_false_iff_ne.2 h1)] ?_
   by_cases h2:a1=2
   ·have HE:=L2 h2
    exact(hX.to HE.symm).e [t_ (beq_iff_eq.2 h2),c_ [] (show S 83 [I a2,I a3,I a5] [] (RT (dm a2 a3 a5)) []from xP _ _ _)]
   ·obtain⟨L3,K3⟩:=K2 h2
    refine hX.go [f_ (beq_eq_false_iff_ne.2 h2)] ?_
    by_cases h3:a1=3
    ·have HE:=L3 h3
     exact(hX.to HE.symm).e [t_ (beq_iff_eq.2 h3),c_ [] (vI a2 a3)]
    ·obtain⟨L4,K4⟩:=K3 h3
     refine hX.go [f_ (beq_eq_false_iff_ne.2 h3)] ?_
     by_cases h4:a1=4
     ·have HE:=L4 h4
      exact(hX.to HE.symm).e [t_ (beq_iff_eq.2 h4),c_ [] (vH a2 a3)]
     ·obtain⟨L5,K5⟩:=K4 h4
      refine hX.go [f_ (beq_eq_false_iff_ne.2 h4)] ?_
      by_cases h5:a1=5
      ·have HE:=L5 h5
       exact(hX.to HE.symm).e [t_ (beq_iff_eq.2 h5),c_ [] (rB a2 a3)]
      ·obtain⟨h6,HE⟩:=K5 h5
       exact(hX.to HE.symm).e [f_ (beq_eq_false_iff_ne.2 h5),f_ (beq_eq_false_iff_ne.2 h6)]
theorem sj {k a b:Int} {eom:Bool} {e f:Int} {n:Nat} {g:Nat→Int} (h:k≠6):al k a b eom e f n g=al k a b eom e f 0 (fun _=>0):=by unfold al;rw[if_neg h,if_neg h]
theorem Du {k a b:Int} {eom:Bool} {e f:Int} (h:k≠6):S 57 [I k,I a,I b, .agg [B eom,I e,I f, .val (.slice none 0 0)]] [] (RT (al k a b eom e f 0 (fun _=>0))) []:=
 zq ⟨fun h0=>by subst h0;rfl,fun h0=>⟨fun h1=>by subst h1;rfl,fun h1=>⟨fun h2=>by subst h2;rfl,fun h2=>⟨fun h3=>by subst h3;rfl,fun h3=>⟨fun h4=>by subst h4;rfl,fun h4=>⟨fun h5=>by subst h5;rfl,fun h5=>⟨h,by simp only[al,h0,h1,h2,h3,h4,h5,h,if_true,if_false]⟩⟩⟩⟩⟩⟩⟩
noncomputable def mG (t:cj) (C:Cl) (x1:Int) (n11_:Nat) (g1111:Nat→Int) (g1112:Nat→Int):SC:=
 ⟨[⟨32,bJ 111 [(2, .ptr 2 0),(4, .ptr 4 0),(8, .sl 6 (aw C (tD t) t.ah (tN t))),(10, .ptr 7 0),(15, .ptr 10 0),(16,I x1)],[.code (aa Tryz.f32 [1,1,1,1,1,1,1,1,0,1,0,0]), .inLoop (aa Tryz.f32 [1,1,1,1,1,1,1,1,0,1,0,0]), .inBlock 0, .code (aa Tryz.f32 [1,1,1,1,1,1,1,1,1])],{}⟩],(aB C++[some (.box true [I t.a1,I t.a2,I t.a3,I t.a4,I t.a5,I t.a6,I t.a7,B t.a8,B t.a9,B t.ak,I t.ah]),none,some (.box true [.val (.slice none 0 0), .val (.slice none 0 0), .val (.slice none 0 0),B false,I 0,I 0, .val (.slice none 0 0)]),some (.row true 3 (tN t) 1 (fun i=>[I (tD t i)])),some (.row true 3 (aw C (tD t) t.ah (tN t)) 1 (fun i=>[I ((aD C ((tD t) i) t.ah).1)])),some (.box true [B t.ak,I ((aD C ((tD t) (((((aw C (tD t) t.ah (tN t)):Nat):Int)-1).toNat)) t.ah).1),I (br t.a7), .sl 9 (aw C (tV t) t.ah (tG t))]),none,some (.row true 3 (aw C (tV t) t.ah (tG t)) 1 (fun i=>[I ((aD C ((tV t) i) t.ah).1)])),some (.box true [.sl 5 (tN t), .sl 6 (aw C (tD t) t.ah (tN t)), .sl 11 n11_,B t.ak,I ((aD C ((tD t) (((((aw C (tD t) t.ah (tN t)):Nat):Int)-1).toNat)) t.ah).1),I (br t.a7), .sl 9 (aw C (tV t) t.ah (tG t))]),some (.row true 121 n11_ 2 (fun i=>[I (g1111 i),I (g1112 i)]))])⟩
noncomputable def mF (t:cj) (C:Cl) (x1:Int) (n9_:Nat) (g1091:Nat→Int) (g1092:Nat→Int):SC:=
 ⟨[⟨32,bJ 111 [(2, .ptr 2 0),(4, .ptr 4 0),(8, .sl 6 (aw C (tD t) t.ah (tN t))),(10, .ptr 7 0),(15, .ptr 8 0),(16,I x1)],[.code (aa Tryz.f32 [1,1,1,1,1,1,1,1,0,1,0,0]), .inLoop (aa Tryz.f32 [1,1,1,1,1,1,1,1,0,1,0,0]), .inBlock 0, .code (aa Tryz.f32 [1,1,1,1,1,1,1,1,1])],{}⟩],(aB C++[some (.box true [I t.a1,I t.a2,I t.a3,I t.a4,I t.a5,I t.a6,I t.a7,B t.a8,B t.a9,B t.ak,I t.ah]),none,some (.box true [.val (.slice none 0 0), .val (.slice none 0 0), .val (.slice none 0 0),B false,I 0,I 0, .val (.slice none 0 0)]),some (.row true 3 (tN t) 1 (fun i=>[I (tD t i)])),some (.row true 3 (aw C (tD t) t.ah (tN t)) 1 (fun i=>[I ((aD C ((tD t) i) t.ah).1)])),some (.box true [B t.ak,I ((aD C ((tD t) (((((aw C (tD t) t.ah (tN t)):Nat):Int)-1).toNat)) t.ah).1),I (br t.a7), .val (.slice none 0 0)]),some (.box true [.sl 5 (tN t), .sl 6 (aw C (tD t) t.ah (tN t)), .sl 9 n9_,B t.ak,I ((aD C ((tD t) (((((aw C (tD t) t.ah (tN t)):Nat):Int)-1).toNat)) t.ah).1),I (br t.a7), .val (.slice none 0 0)]),some (.row true 121 n9_ 2 (fun i=>[I (g1091 i),I (g1092 i)]))])⟩
noncomputable def qf (t:cj) (C:Cl) (x1:Int) (n12_:Nat) (g1121:Nat→Int) (g1122:Nat→Int):SC:=
 ⟨[⟨32,bJ 111 [(2, .ptr 2 0),(4, .ptr 4 0),(8, .sl 6 (aw C (tD t) t.ah (tN t))),(10, .ptr 7 0),(15, .ptr 8 0),(16,I x1)],[.code (aa Tryz.f32 [1,1,1,1,1,1,1,1,0,1,0,0]), .inLoop (aa Tryz.f32 [1,1,1,1,1,1,1,1,0,1,0,0]), .inBlock 0, .code (aa Tryz.f32 [1,1,1,1,1,1,1,1,1])],{}⟩],(aB C++[some (.box true [I t.a1,I t.a2,I t.a3,I t.a4,I t.a5,I t.a6,I t.a7,B t.a8,B t.a9,B t.ak,I t.ah]),none,some (.box true [.val (.slice none 0 0), .val (.slice none 0 0), .val (.slice none 0 0),B false,I 0,I 0, .val (.slice none 0 0)]),some (.row true 3 (tN t) 1 (fun i=>[I (tD t i)])),some (.row true 3 (aw C (tD t) t.ah (tN t)) 1 (fun i=>[I ((aD C ((tD t) i) t.ah).1)])),some (.box true [B t.ak,I ((aD C ((tD t) (((((aw C (tD t) t.ah (tN t)):Nat):Int)-1).toNat)) t.ah).1),I (br t.a7), .val (.slice none 0 0)]),some (.box true [.sl 5 (tN t), .sl 6 (aw C (tD t) t.ah (tN t)), .sl 12 n12_,B t.ak,I ((aD C ((tD t) (((((aw C (tD t) t.ah (tN t)):Nat):Int)-1).toNat)) t.ah).1),I (br t.a7), .val (.slice none 0 0)]),none,none,none,some (.row true 121 n12_ 2 (fun i=>[I (g1121 i),I (g1122 i)]))])⟩
theorem mD {X:Cx} {t:cj} {C:Cl} {res:SV} {new:List (Option Vw)} (hX:Fi X 32 (aB C) (res) new) (H:(fO t=0→t.a6-t.a5≤6200*t.a7)∧((fO t)≠0→(((.af [.agg [.val (.slice none 0 0), .val (.slice none 0 0), .val (.slice none 0 0),B false,I 0,I 0, .val (.slice none 0 0)],I (fO t)]):SV)=res)∧aG [] new)∧((fO t)=0→bU C∧(tN t)≤10000∧(∀ i,i<(tN t)→ai ((tD t) i)=true)∧((px C (tD t) t.ah (tN t))≠0→(((.af [.agg [.val (.slice none 0 0), .val (.slice none 0 0), .val (.slice none 0 0),B false,I 0,I 0, .val (.slice none 0 0)],I (px C (tD t) t.ah (tN t))]):SV)=res)∧aG [] new)∧((px C (tD t) t.ah (tN t))=0→Ir ((((aw C (tD t) t.ah (tN t)):Nat):Int)-1)∧((0:Int)≤((((aw C (tD t) t.ah (tN t)):Nat):Int)-1)∧((((aw C (tD t) t.ah (tN t)):Nat):Int)-1)<(((aw C (tD t) t.ah (tN t)):Nat):Int))∧(t.a4=6→(tG t)≤10000∧(∀ i,i<(tG t)→ai ((tV t) i)=true)∧((px C (tV t) t.ah (tG t))≠0→(((.af [.agg [.val (.slice none 0 0), .val (.slice none 0 0), .val (.slice none 0 0),B false,I 0,I 0, .val (.slice none 0 0)],I (px C (tV t) t.ah (tG t))]):SV)=res)∧aG [] new)∧((px C (tV t) t.ah (tG t))=0→Ok X (mG t C 1 0 (fun _=>default) (fun _=>default))))∧(t.a4≠6→Ok X (mF t C 1 0 (fun _=>default) (fun _=>default)))))):
  Ok X (entry Tryz.prog 32 [.agg [I t.a1,I t.a2,I t.a3,I t.a4,I t.a5,I t.a6,I t.a7,B t.a8,B t.a9,B t.ak,I t.ah], .agg [B (C.off 0),B (C.off 1),B (C.off 2),B (C.off 3),B (C.off 4),B (C.off 5),B (C.off 6), .sl 0 C.nr, .sl 1 C.nd]] (aB C)):=by
 obtain⟨h0,L1,K1⟩:=H
 refine hX.go [c_ [] (show S 54 [.agg [I t.a1,I t.a2,I t.a3,I t.a4,I t.a5,I t.a6,I t.a7,B t.a8,B t.a9,B t.ak,I t.ah]] [] (.af [.sl 0 (tN t),I (fO t)]) [some (.row true 3 (tN t) 1 (fun i=>[I (tD t i)]))]from MG _ _ _ _ _ _ _ _ _ _ _ h0)] ?_
 by_cases h1:(fO t)=0
 ·obtain⟨h2,h3,h4,L5,K5⟩:=K1 h1
  refine hX.go [f_ (bne_eq_false_iff_eq.2 h1),c_ [0,1,5] (show S 55 [.agg [B (C.off 0),B (C.off 1),B (C.off 2),B (C.off 3),B (C.off 4),B (C.off 5),B (C.off 6), .sl 0 C.nr, .sl 1 C.nd], .sl 2 (tN t),I t.ah] (aB C++[some (.row false 3 (tN t) 1 (fun i=>[I (tD t i)]))]) (.af [.sl 3 (aw C (tD t) t.ah (tN t)),I (px C (tD t) t.ah (tN t))]) [some (.row true 3 (aw C (tD t) t.ah (tN t)) 1 (fun i=>[I ((aD C ((tD t) i) t.ah).1)]))]from Bb h2 h3 h4)] ?_
  by_cases h5:(px C (tD t) t.ah (tN t))=0
  ·obtain⟨h6,h7,L8,K8⟩:=K5 h5
   refine hX.go [f_ (bne_eq_false_iff_eq.2 h5),q_ h6,q_ h7,q_ (show(aw C (tD t) t.ah (tN t))=(aw C (tD t) t.ah (tN t))from rfl),q_ h7,d_ 13,c_ [] (Ha t.a7)] ?_
   by_cases h8:t.a4=6
   ·obtain⟨h9,h10,L11,K11⟩:=L8 h8
    refine hX.go [t_ (beq_iff_eq.2 h8),c_ [] (show S 56 [.agg [I t.a1,I t.a2,I t.a3,I t.a4,I t.a5,I t.a6,I t.a7,B t.a8,B t.a9,B t.ak,I t.ah]] [] (.af [.sl 0 (tG t),I (fO t)]) [some (.row true 3 (tG t) 1 (fun i=>[I (tV t i)]))]from G_ _ _ _ _ _ _ _ _ _ _ _ h0),c_ [0,1,8] (show S 55 [.agg [B (C.off 0),B (C.off 1),B (C.off 2),B (C.off 3),B (C.off 4),B (C.off 5),B (C.off 6), .sl 0 C.nr, .sl 1 C.nd], .sl 2 (tG t),I t.ah] (aB C++[some (.row false 3 (tG t) 1 (fun i=>[I (tV t i)]))]) (.af [.sl 3 (aw C (tV t) t.ah (tG t)),I (px C (tV t) t.ah (tG t))]) [some (.row true 3 (aw C (tV t) t.ah (tG t)) 1 (fun i=>[I ((aD C ((tV t) i) t.ah).1)]))]from Bb h2 h9 h10)] ?_
    by_cases h11:(px C (tV t) t.ah (tG t))=0
    ·have k:=K11 h11
     exact hX.h 23 [f_ (bne_eq_false_iff_eq.2 h11)] [.ae 0, .ae 1, .ae 2, .ae 1003, .ae 4, .ae 5, .ae 6, .ae 7, .ae 1008, .ae 9, .ae 10, .nil 2] k
    ·have HE:=L11 h11
     obtain⟨HE,HN⟩:=HE
     exact((hX.to HE.symm).same HN).e [t_ (bne_iff_ne.2 h11)]
   ·have k:=K8 h8
    exact hX.h 18 [f_ (beq_eq_false_iff_ne.2 h8)] [.ae 0, .ae 1, .ae 2, .ae 1003, .ae 4, .ae 5, .ae 6, .ae 7, .ae 8, .nil 2] k
  ·have HE:=L5 h5
   obtain⟨HE,HN⟩:=HE
   exact((hX.to HE.symm).same HN).e [t_ (bne_iff_ne.2 h5)]
 ·have HE:=L1 h1
  obtain⟨HE,HN⟩:=HE
  exact((hX.to HE.symm).same HN).e [t_ (bne_iff_ne.2 h1)]
theorem tf {X:Cx} {t:cj} {C:Cl} {x1:Int} {n11_:Nat} {g1111 g1112:Nat→Int} {res:SV} {new:List (Option Vw)} (hX:Fi X 32 (aB C) (res) new) (H:(x1<(((aw C (tD t) t.ah (tN t)):Nat):Int)→Ir (x1-1)∧((0:Int)≤(x1-1)∧(x1-1)<(((aw C (tD t) t.ah (tN t)):Nat):Int))∧((0:Int)≤x1∧x1<(((aw C (tD t) t.ah (tN t)):Nat):Int))∧(((al t.a4 ((aD C ((tD t) ((x1-1).toNat)) t.ah).1) ((aD C ((tD t) x1.toNat) t.ah).1) t.ak ((aD C ((tD t) (((((aw C (tD t) t.ah (tN t)):Nat):Int)-1).toNat)) t.ah).1) (br t.a7) (aw C (tV t) t.ah (tG t)) (fun i=>(aD C ((tV t) i) t.ah).1)).2.2)≠0→(((.af [.agg [.val (.slice none 0 0), .val (.slice none 0 0), .val (.slice none 0 0),B false,I 0,I 0, .val (.slice none 0 0)],I ((al t.a4 ((aD C ((tD t) ((x1-1).toNat)) t.ah).1) ((aD C ((tD t) x1.toNat) t.ah).1) t.ak ((aD C ((tD t) (((((aw C (tD t) t.ah (tN t)):Nat):Int)-1).toNat)) t.ah).1) (br t.a7) (aw C (tV t) t.ah (tG t)) (fun i=>(aD C ((tV t) i) t.ah).1)).2.2)]):SV)=res)∧aG [] new)∧(((al t.a4 ((aD C ((tD t) ((x1-1).toNat)) t.ah).1) ((aD C ((tD t) x1.toNat) t.ah).1) t.ak ((aD C ((tD t) (((((aw C (tD t) t.ah (tN t)):Nat):Int)-1).toNat)) t.ah).1) (br t.a7) (aw C (tV t) t.ah (tG t)) (fun i=>(aD C ((tV t) i) t.ah).1)).2.2)=0→ ∃ q5002:Nat→Int,(∀ k,k<(n11_+1)→q5002 k=if k<n11_ then(g1111 k)else((al t.a4 ((aD C ((tD t) ((x1-1).toNat)) t.ah).1) ((aD C ((tD t) x1.toNat) t.ah).1) t.ak ((aD C ((tD t) (((((aw C (tD t) t.ah (tN t)):Nat):Int)-1).toNat)) t.ah).1) (br t.a7) (aw C (tV t) t.ah (tG t)) (fun i=>(aD C ((tV t) i) t.ah).1)).1))∧ ∃ q5003:Nat→Int,(∀ k,k<(n11_+1)→q5003 k=if k<n11_ then(g1112 k)else((al t.a4 ((aD C ((tD t) ((x1-1).toNat)) t.ah).1) ((aD C ((tD t) x1.toNat) t.ah).1) t.ak ((aD C ((tD t) (((((aw C (tD t) t.ah (tN t)):Nat):Int)-1).toNat)) t.ah).1) (br t.a7) (aw C (tV t) t.ah (tG t)) (fun i=>(aD C ((tV t) i) t.ah).1)).2.1))∧(n11_+1)*16≤140737488355328∧Ir (x1+1)∧Ok X (mG t C (x1+1) (n11_+1) q5002 q5003)))∧(¬x1<(((aw C (tD t) t.ah (tN t)):Nat):Int)→(((.af [.agg [.sl 2 (tN t), .sl 3 (aw C (tD t) t.ah (tN t)), .sl 4 n11_,B t.ak,I ((aD C ((tD t) (((((aw C (tD t) t.ah (tN t)):Nat):Int)-1).toNat)) t.ah).1),I (br t.a7), .sl 5 (aw C (tV t) t.ah (tG t))],I 0]):SV)=res)∧aG [some (.row true 3 (tN t) 1 (fun i=>[I (tD t i)])),some (.row true 3 (aw C (tD t) t.ah (tN t)) 1 (fun i=>[I ((aD C ((tD t) i) t.ah).1)])),some (.row true 121 n11_ 2 (fun i=>[I (g1111 i),I (g1112 i)])),some (.row true 3 (aw C (tV t) t.ah (tG t)) 1 (fun i=>[I ((aD C ((tV t) i) t.ah).1)]))] new)):
  Ok X (mG t C x1 n11_ g1111 g1112):=by
 obtain⟨L0,K0⟩:=H
 by_cases h0:x1<(((aw C (tD t) t.ah (tN t)):Nat):Int)
 ·obtain⟨h1,h2,h3,L4,K4⟩:=L0 h0
  refine hX.go [t_ (dt h0),q_ h1,q_ h2,q_ (show(aw C (tD t) t.ah (tN t))=(aw C (tD t) t.ah (tN t))from rfl),q_ h2,q_ h3,q_ (show(aw C (tD t) t.ah (tN t))=(aw C (tD t) t.ah (tN t))from rfl),q_ h3,h_ [.draw 17 [15] 1],c_ [9] (show S 57 [I t.a4,I ((aD C ((tD t) ((x1-1).toNat)) t.ah).1),I ((aD C ((tD t) x1.toNat) t.ah).1), .agg [B t.ak,I ((aD C ((tD t) (((((aw C (tD t) t.ah (tN t)):Nat):Int)-1).toNat)) t.ah).1),I (br t.a7), .sl 0 (aw C (tV t) t.ah (tG t))]] [some (.row false 3 (aw C (tV t) t.ah (tG t)) 1 (fun i=>[I ((aD C ((tV t) i) t.ah).1)]))] (RT (al t.a4 ((aD C ((tD t) ((x1-1).toNat)) t.ah).1) ((aD C ((tD t) x1.toNat) t.ah).1) t.ak ((aD C ((tD t) (((((aw C (tD t) t.ah (tN t)):Nat):Int)-1).toNat)) t.ah).1) (br t.a7) (aw C (tV t) t.ah (tG t)) (fun i=>(aD C ((tV t) i) t.ah).1))) []from G5 _ _ _),q_ (show(I ((al t.a4 ((aD C ((tD t) ((x1-1).toNat)) t.ah).1) ((aD C ((tD t) x1.toNat) t.ah).1) t.ak ((aD C ((tD t) (((((aw C (tD t) t.ah (tN t)):Nat):Int)-1).toNat)) t.ah).1) (br t.a7) (aw C (tV t) t.ah (tG t)) (fun i=>(aD C ((tV t) i) t.ah).1)).2.2):SV)=I ((al t.a4 ((aD C ((tD t) ((x1-1).toNat)) t.ah).1) ((aD C ((tD t) x1.toNat) t.ah).1) t.ak ((aD C ((tD t) (((((aw C (tD t) t.ah (tN t)):Nat):Int)-1).toNat)) t.ah).1) (br t.a7) (aw C (tV t) t.ah (tG t)) (fun i=>(aD C ((tV t) i) t.ah).1)).2.2)from rfl),q_ (show(I ((al t.a4 ((aD C ((tD t) ((x1-1).toNat)) t.ah).1) ((aD C ((tD t) x1.toNat) t.ah).1) t.ak ((aD C ((tD t) (((((aw C (tD t) t.ah (tN t)):Nat):Int)-1).toNat)) t.ah).1) (br t.a7) (aw C (tV t) t.ah (tG t)) (fun i=>(aD C ((tV t) i) t.ah).1)).2.2):SV)=I ((al t.a4 ((aD C ((tD t) ((x1-1).toNat)) t.ah).1) ((aD C ((tD t) x1.toNat) t.ah).1) t.ak ((aD C ((tD t) (((((aw C (tD t) t.ah (tN t)):Nat):Int)-1).toNat)) t.ah).1) (br t.a7) (aw C (tV t) t.ah (tG t)) (fun i=>(aD C ((tV t) i) t.ah).1)).2.2)from rfl)] ?_
  by_cases h4:((al t.a4 ((aD C ((tD t) ((x1-1).toNat)) t.ah).1) ((aD C ((tD t) x1.toNat) t.ah).1) t.ak ((aD C ((tD t) (((((aw C (tD t) t.ah (tN t)):Nat):Int)-1).toNat)) t.ah).1) (br t.a7) (aw C (tV t) t.ah (tG t)) (fun i=>(aD C ((tV t) i) t.ah).1)).2.2)=0
  ·obtain⟨q5002,h5,q5003,h6,h7,h8,k⟩:=K4 h4
   exact hX.h 18 [f_ (bne_eq_false_iff_eq.2 h4),q_ (show ∀ k,k<1→(fun i=>[I ((al t.a4 ((aD C ((tD t) ((x1-1).toNat)) t.ah).1) ((aD C ((tD t) x1.toNat) t.ah).1) t.ak ((aD C ((tD t) (((((aw C (tD t) t.ah (tN t)):Nat):Int)-1).toNat)) t.ah).1) (br t.a7) (aw C (tV t) t.ah (tG t)) (fun i=>(aD C ((tV t) i) t.ah).1)).1),I ((al t.a4 ((aD C ((tD t) ((x1-1).toNat)) t.ah).1) ((aD C ((tD t) x1.toNat) t.ah).1) t.ak ((aD C ((tD t) (((((aw C (tD t) t.ah (tN t)):Nat):Int)-1).toNat)) t.ah).1) (br t.a7) (aw C (tV t) t.ah (tG t)) (fun i=>(aD C ((tV t) i) t.ah).1)).2.1)]) k=[[I ((al t.a4 ((aD C ((tD t) ((x1-1).toNat)) t.ah).1) ((aD C ((tD t) x1.toNat) t.ah).1) t.ak ((aD C ((tD t) (((((aw C (tD t) t.ah (tN t)):Nat):Int)-1).toNat)) t.ah).1) (br t.a7) (aw C (tV t) t.ah (tG t)) (fun i=>(aD C ((tV t) i) t.ah).1)).1),I ((al t.a4 ((aD C ((tD t) ((x1-1).toNat)) t.ah).1) ((aD C ((tD t) x1.toNat) t.ah).1) t.ak ((aD C ((tD t) (((((aw C (tD t) t.ah (tN t)):Nat):Int)-1).toNat)) t.ah).1) (br t.a7) (aw C (tV t) t.ah (tG t)) (fun i=>(aD C ((tV t) i) t.ah).1)).2.1)]].getD k []from by intro k hk;match k,hk with|0,_=>rfl|k+1,hk=>omega),q_ (re 1),q_ (re n11_),q_ h7,q_ (show ∀ k,k<n11_+1→(fun i=>[I (q5002 i),I (q5003 i)]) k=if k<n11_ then(fun i=>[I (g1111 i),I (g1112 i)]) k else(fun i=>[I ((al t.a4 ((aD C ((tD t) ((x1-1).toNat)) t.ah).1) ((aD C ((tD t) x1.toNat) t.ah).1) t.ak ((aD C ((tD t) (((((aw C (tD t) t.ah (tN t)):Nat):Int)-1).toNat)) t.ah).1) (br t.a7) (aw C (tV t) t.ah (tG t)) (fun i=>(aD C ((tV t) i) t.ah).1)).1),I ((al t.a4 ((aD C ((tD t) ((x1-1).toNat)) t.ah).1) ((aD C ((tD t) x1.toNat) t.ah).1) t.ak ((aD C ((tD t) (((((aw C (tD t) t.ah (tN t)):Nat):Int)-1).toNat)) t.ah).1) (br t.a7) (aw C (tV t) t.ah (tG t)) (fun i=>(aD C ((tV t) i) t.ah).1)).2.1)]) (k-n11_)from fun k hk=>by
   have e0:=h5 k hk
   have e1:=h6 k hk
   by_cases c:k<n11_
   ·simp_all
   ·rw[if_neg c]at e0 e1⊢;simp only[e0,e1]),q_ h8,h_ [.row (fun i=>[I ((al t.a4 ((aD C ((tD t) ((x1-1).toNat)) t.ah).1) ((aD C ((tD t) x1.toNat) t.ah).1) t.ak ((aD C ((tD t) (((((aw C (tD t) t.ah (tN t)):Nat):Int)-1).toNat)) t.ah).1) (br t.a7) (aw C (tV t) t.ah (tG t)) (fun i=>(aD C ((tV t) i) t.ah).1)).1),I ((al t.a4 ((aD C ((tD t) ((x1-1).toNat)) t.ah).1) ((aD C ((tD t) x1.toNat) t.ah).1) t.ak ((aD C ((tD t) (((((aw C (tD t) t.ah (tN t)):Nat):Int)-1).toNat)) t.ah).1) (br t.a7) (aw C (tV t) t.ah (tG t)) (fun i=>(aD C ((tV t) i) t.ah).1)).2.1)]), .row (fun i=>[I (q5002 i),I (q5003 i)])]] [.ae 0, .ae 1, .ae 2, .ae 1003, .ae 4, .ae 5, .ae 6, .ae 7, .ae 1008, .ae 9, .ae 10, .ae 14] k
  ·have HE:=L4 h4
   obtain⟨HE,HN⟩:=HE
   exact((hX.to HE.symm).same HN).e [t_ (bne_iff_ne.2 h4)]
 ·have HE:=K0 h0
  obtain⟨HE,HN⟩:=HE
  exact((hX.to HE.symm).same HN).e [f_ (df h0)] [5,6,11,9]
theorem te {X:Cx} {t:cj} {C:Cl} {x1:Int} {n9_:Nat} {g1091 g1092:Nat→Int} {res:SV} {new:List (Option Vw)} (hX:Fi X 32 (aB C) (res) new) (H:(x1<(((aw C (tD t) t.ah (tN t)):Nat):Int)→Ir (x1-1)∧((0:Int)≤(x1-1)∧(x1-1)<(((aw C (tD t) t.ah (tN t)):Nat):Int))∧((0:Int)≤x1∧x1<(((aw C (tD t) t.ah (tN t)):Nat):Int))∧t.a4≠6∧(((al t.a4 ((aD C ((tD t) ((x1-1).toNat)) t.ah).1) ((aD C ((tD t) x1.toNat) t.ah).1) t.ak ((aD C ((tD t) (((((aw C (tD t) t.ah (tN t)):Nat):Int)-1).toNat)) t.ah).1) (br t.a7) 0 (fun _=>0)).2.2)≠0→(((.af [.agg [.val (.slice none 0 0), .val (.slice none 0 0), .val (.slice none 0 0),B false,I 0,I 0, .val (.slice none 0 0)],I ((al t.a4 ((aD C ((tD t) ((x1-1).toNat)) t.ah).1) ((aD C ((tD t) x1.toNat) t.ah).1) t.ak ((aD C ((tD t) (((((aw C (tD t) t.ah (tN t)):Nat):Int)-1).toNat)) t.ah).1) (br t.a7) 0 (fun _=>0)).2.2)]):SV)=res)∧aG [] new)∧(((al t.a4 ((aD C ((tD t) ((x1-1).toNat)) t.ah).1) ((aD C ((tD t) x1.toNat) t.ah).1) t.ak ((aD C ((tD t) (((((aw C (tD t) t.ah (tN t)):Nat):Int)-1).toNat)) t.ah).1) (br t.a7) 0 (fun _=>0)).2.2)=0→ ∃ q5002:Nat→Int,(∀ k,k<(n9_+1)→q5002 k=if k<n9_ then(g1091 k)else((al t.a4 ((aD C ((tD t) ((x1-1).toNat)) t.ah).1) ((aD C ((tD t) x1.toNat) t.ah).1) t.ak ((aD C ((tD t) (((((aw C (tD t) t.ah (tN t)):Nat):Int)-1).toNat)) t.ah).1) (br t.a7) 0 (fun _=>0)).1))∧ ∃ q5003:Nat→Int,(∀ k,k<(n9_+1)→q5003 k=if k<n9_ then(g1092 k)else((al t.a4 ((aD C ((tD t) ((x1-1).toNat)) t.ah).1) ((aD C ((tD t) x1.toNat) t.ah).1) t.ak ((aD C ((tD t) (((((aw C (tD t) t.ah (tN t)):Nat):Int)-1).toNat)) t.ah).1) (br t.a7) 0 (fun _=>0)).2.1))∧(n9_+1)*16≤140737488355328∧Ir (x1+1)∧Ok X (qf t C (x1+1) (n9_+1) q5002 q5003)))∧(¬x1<(((aw C (tD t) t.ah (tN t)):Nat):Int)→(((.af [.agg [.sl 2 (tN t), .sl 3 (aw C (tD t) t.ah (tN t)), .sl 4 n9_,B t.ak,I ((aD C ((tD t) (((((aw C (tD t) t.ah (tN t)):Nat):Int)-1).toNat)) t.ah).1),I (br t.a7), .val (.slice none 0 0)],I 0]):SV)=res)∧aG [some (.row true 3 (tN t) 1 (fun i=>[I (tD t i)])),some (.row true 3 (aw C (tD t) t.ah (tN t)) 1 (fun i=>[I ((aD C ((tD t) i) t.ah).1)])),some (.row true 121 n9_ 2 (fun i=>[I (g1091 i),I (g1092 i)]))] new)):
  Ok X (mF t C x1 n9_ g1091 g1092):=by
 obtain⟨L0,K0⟩:=H
 by_cases h0:x1<(((aw C (tD t) t.ah (tN t)):Nat):Int)
 ·obtain⟨h1,h2,h3,h4,L5,K5⟩:=L0 h0
  refine hX.go [t_ (dt h0),q_ h1,q_ h2,q_ (show(aw C (tD t) t.ah (tN t))=(aw C (tD t) t.ah (tN t))from rfl),q_ h2,q_ h3,q_ (show(aw C (tD t) t.ah (tN t))=(aw C (tD t) t.ah (tN t))from rfl),q_ h3,h_ [.draw 17 [15] 1],c_ [] (show S 57 [I t.a4,I ((aD C ((tD t) ((x1-1).toNat)) t.ah).1),I ((aD C ((tD t) x1.toNat) t.ah).1), .agg [B t.ak,I ((aD C ((tD t) (((((aw C (tD t) t.ah (tN t)):Nat):Int)-1).toNat)) t.ah).1),I (br t.a7), .val (.slice none 0 0)]] [] (RT (al t.a4 ((aD C ((tD t) ((x1-1).toNat)) t.ah).1) ((aD C ((tD t) x1.toNat) t.ah).1) t.ak ((aD C ((tD t) (((((aw C (tD t) t.ah (tN t)):Nat):Int)-1).toNat)) t.ah).1) (br t.a7) 0 (fun _=>0))) []from Du h4),q_ (show(I ((al t.a4 ((aD C ((tD t) ((x1-1).toNat)) t.ah).1) ((aD C ((tD t) x1.toNat) t.ah).1) t.ak ((aD C ((tD t) (((((aw C (tD t) t.ah (tN t)):Nat):Int)-1).toNat)) t.ah).1) (br t.a7) 0 (fun _=>0)).2.2):SV)=I ((al t.a4 ((aD C ((tD t) ((x1-1).toNat)) t.ah).1) ((aD C ((tD t) x1.toNat) t.ah).1) t.ak ((aD C ((tD t) (((((aw C (tD t) t.ah (tN t)):Nat):Int)-1).toNat)) t.ah).1) (br t.a7) 0 (fun _=>0)).2.2)from rfl),q_ (show(I ((al t.a4 ((aD C ((tD t) ((x1-1).toNat)) t.ah).1) ((aD C ((tD t) x1.toNat) t.ah).1) t.ak ((aD C ((tD t) (((((aw C (tD t) t.ah (tN t)):Nat):Int)-1).toNat)) t.ah).1) (br t.a7) 0 (fun _=>0)).2.2):SV)=I ((al t.a4 ((aD C ((tD t) ((x1-1).toNat)) t.ah).1) ((aD C ((tD t) x1.toNat) t.ah).1) t.ak ((aD C ((tD t) (((((aw C (tD t) t.ah (tN t)):Nat):Int)-1).toNat)) t.ah).1) (br t.a7) 0 (fun _=>0)).2.2)from rfl)] ?_
  by_cases h5:((al t.a4 ((aD C ((tD t) ((x1-1).toNat)) t.ah).1) ((aD C ((tD t) x1.toNat) t.ah).1) t.ak ((aD C ((tD t) (((((aw C (tD t) t.ah (tN t)):Nat):Int)-1).toNat)) t.ah).1) (br t.a7) 0 (fun _=>0)).2.2)=0
  ·obtain⟨q5002,h6,q5003,h7,h8,h9,k⟩:=K5 h5
   exact hX.h 18 [f_ (bne_eq_false_iff_eq.2 h5),q_ (show ∀ k,k<1→(fun i=>[I ((al t.a4 ((aD C ((tD t) ((x1-1).toNat)) t.ah).1) ((aD C ((tD t) x1.toNat) t.ah).1) t.ak ((aD C ((tD t) (((((aw C (tD t) t.ah (tN t)):Nat):Int)-1).toNat)) t.ah).1) (br t.a7) 0 (fun _=>0)).1),I ((al t.a4 ((aD C ((tD t) ((x1-1).toNat)) t.ah).1) ((aD C ((tD t) x1.toNat) t.ah).1) t.ak ((aD C ((tD t) (((((aw C (tD t) t.ah (tN t)):Nat):Int)-1).toNat)) t.ah).1) (br t.a7) 0 (fun _=>0)).2.1)]) k=[[I ((al t.a4 ((aD C ((tD t) ((x1-1).toNat)) t.ah).1) ((aD C ((tD t) x1.toNat) t.ah).1) t.ak ((aD C ((tD t) (((((aw C (tD t) t.ah (tN t)):Nat):Int)-1).toNat)) t.ah).1) (br t.a7) 0 (fun _=>0)).1),I ((al t.a4 ((aD C ((tD t) ((x1-1).toNat)) t.ah).1) ((aD C ((tD t) x1.toNat) t.ah).1) t.ak ((aD C ((tD t) (((((aw C (tD t) t.ah (tN t)):Nat):Int)-1).toNat)) t.ah).1) (br t.a7) 0 (fun _=>0)).2.1)]].getD k []from by intro k hk;match k,hk with|0,_=>rfl|k+1,hk=>omega),q_ (re 1),q_ (re n9_),q_ h8,q_ (show ∀ k,k<n9_+1→(fun i=>[I (q5002 i),I (q5003 i)]) k=if k<n9_ then(fun i=>[I (g1091 i),I (g1092 i)]) k else(fun i=>[I ((al t.a4 ((aD C ((tD t) ((x1-1).toNat)) t.ah).1) ((aD C ((tD t) x1.toNat) t.ah).1) t.ak ((aD C ((tD t) (((((aw C (tD t) t.ah (tN t)):Nat):Int)-1).toNat)) t.ah).1) (br t.a7) 0 (fun _=>0)).1),I ((al t.a4 ((aD C ((tD t) ((x1-1).toNat)) t.ah).1) ((aD C ((tD t) x1.toNat) t.ah).1) t.ak ((aD C ((tD t) (((((aw C (tD t) t.ah (tN t)):Nat):Int)-1).toNat)) t.ah).1) (br t.a7) 0 (fun _=>0)).2.1)]) (k-n9_)from fun k hk=>by
   have e0:=h6 k hk
   have e1:=h7 k hk
   by_cases c:k<n9_
   ·simp_all
   ·rw[if_neg c]at e0 e1⊢;simp only[e0,e1]),q_ h9,h_ [.row (fun i=>[I ((al t.a4 ((aD C ((tD t) ((x1-1).toNat)) t.ah).1) ((aD C ((tD t) x1.toNat) t.ah).1) t.ak ((aD C ((tD t) (((((aw C (tD t) t.ah (tN t)):Nat):Int)-1).toNat)) t.ah).1) (br t.a7) 0 (fun _=>0)).1),I ((al t.a4 ((aD C ((tD t) ((x1-1).toNat)) t.ah).1) ((aD C ((tD t) x1.toNat) t.ah).1) t.ak ((aD C ((tD t) (((((aw C (tD t) t.ah (tN t)):Nat):Int)-1).toNat)) t.ah).1) (br t.a7) 0 (fun _=>0)).2.1)]), .row (fun i=>[I (q5002 i),I (q5003 i)])]] [.ae 0, .ae 1, .ae 2, .ae 1003, .ae 4, .ae 5, .ae 6, .ae 7, .ae 8, .ae 1009, .ae 1010, .ae 1011, .ae 12] k
  ·have HE:=L5 h5
   obtain⟨HE,HN⟩:=HE
   exact((hX.to HE.symm).same HN).e [t_ (bne_iff_ne.2 h5)]
 ·have HE:=K0 h0
  obtain⟨HE,HN⟩:=HE
  exact((hX.to HE.symm).same HN).e [f_ (df h0)] [5,6,9]
theorem td {X:Cx} {t:cj} {C:Cl} {x1:Int} {n12_:Nat} {g1121 g1122:Nat→Int} {res:SV} {new:List (Option Vw)} (hX:Fi X 32 (aB C) (res) new) (H:(x1<(((aw C (tD t) t.ah (tN t)):Nat):Int)→Ir (x1-1)∧((0:Int)≤(x1-1)∧(x1-1)<(((aw C (tD t) t.ah (tN t)):Nat):Int))∧((0:Int)≤x1∧x1<(((aw C (tD t) t.ah (tN t)):Nat):Int))∧t.a4≠6∧(((al t.a4 ((aD C ((tD t) ((x1-1).toNat)) t.ah).1) ((aD C ((tD t) x1.toNat) t.ah).1) t.ak ((aD C ((tD t) (((((aw C (tD t) t.ah (tN t)):Nat):Int)-1).toNat)) t.ah).1) (br t.a7) 0 (fun _=>0)).2.2)≠0→(((.af [.agg [.val (.slice none 0 0), .val (.slice none 0 0), .val (.slice none 0 0),B false,I 0,I 0, .val (.slice none 0 0)],I ((al t.a4 ((aD C ((tD t) ((x1-1).toNat)) t.ah).1) ((aD C ((tD t) x1.toNat) t.ah).1) t.ak ((aD C ((tD t) (((((aw C (tD t) t.ah (tN t)):Nat):Int)-1).toNat)) t.ah).1) (br t.a7) 0 (fun _=>0)).2.2)]):SV)=res)∧aG [] new)∧(((al t.a4 ((aD C ((tD t) ((x1-1).toNat)) t.ah).1) ((aD C ((tD t) x1.toNat) t.ah).1) t.ak ((aD C ((tD t) (((((aw C (tD t) t.ah (tN t)):Nat):Int)-1).toNat)) t.ah).1) (br t.a7) 0 (fun _=>0)).2.2)=0→ ∃ q5002:Nat→Int,(∀ k,k<(n12_+1)→q5002 k=if k<n12_ then(g1121 k)else((al t.a4 ((aD C ((tD t) ((x1-1).toNat)) t.ah).1) ((aD C ((tD t) x1.toNat) t.ah).1) t.ak ((aD C ((tD t) (((((aw C (tD t) t.ah (tN t)):Nat):Int)-1).toNat)) t.ah).1) (br t.a7) 0 (fun _=>0)).1))∧ ∃ q5003:Nat→Int,(∀ k,k<(n12_+1)→q5003 k=if k<n12_ then(g1122 k)else((al t.a4 ((aD C ((tD t) ((x1-1).toNat)) t.ah).1) ((aD C ((tD t) x1.toNat) t.ah).1) t.ak ((aD C ((tD t) (((((aw C (tD t) t.ah (tN t)):Nat):Int)-1).toNat)) t.ah).1) (br t.a7) 0 (fun _=>0)).2.1))∧(n12_+1)*16≤140737488355328∧Ir (x1+1)∧Ok X (mF t C (x1+1) (n12_+1) q5002 q5003)))∧(¬x1<(((aw C (tD t) t.ah (tN t)):Nat):Int)→(((.af [.agg [.sl 2 (tN t), .sl 3 (aw C (tD t) t.ah (tN t)), .sl 4 n12_,B t.ak,I ((aD C ((tD t) (((((aw C (tD t) t.ah (tN t)):Nat):Int)-1).toNat)) t.ah).1),I (br t.a7), .val (.slice none 0 0)],I 0]):SV)=res)∧aG [some (.row true 3 (tN t) 1 (fun i=>[I (tD t i)])),some (.row true 3 (aw C (tD t) t.ah (tN t)) 1 (fun i=>[I ((aD C ((tD t) i) t.ah).1)])),some (.row true 121 n12_ 2 (fun i=>[I (g1121 i),I (g1122 i)]))] new)):
  Ok X (qf t C x1 n12_ g1121 g1122):=by
 obtain⟨L0,K0⟩:=H
 by_cases h0:x1<(((aw C (tD t) t.ah (tN t)):Nat):Int)
 ·obtain⟨h1,h2,h3,h4,L5,K5⟩:=L0 h0
  refine hX.go [t_ (dt h0),q_ h1,q_ h2,q_ (show(aw C (tD t) t.ah (tN t))=(aw C (tD t) t.ah (tN t))from rfl),q_ h2,q_ h3,q_ (show(aw C (tD t) t.ah (tN t))=(aw C (tD t) t.ah (tN t))from rfl),q_ h3,h_ [.draw 17 [15] 1],c_ [] (show S 57 [I t.a4,I ((aD C ((tD t) ((x1-1).toNat)) t.ah).1),I ((aD C ((tD t) x1.toNat) t.ah).1), .agg [B t.ak,I ((aD C ((tD t) (((((aw C (tD t) t.ah (tN t)):Nat):Int)-1).toNat)) t.ah).1),I (br t.a7), .val (.slice none 0 0)]] [] (RT (al t.a4 ((aD C ((tD t) ((x1-1).toNat)) t.ah).1) ((aD C ((tD t) x1.toNat) t.ah).1) t.ak ((aD C ((tD t) (((((aw C (tD t) t.ah (tN t)):Nat):Int)-1).toNat)) t.ah).1) (br t.a7) 0 (fun _=>0))) []from Du h4),q_ (show(I ((al t.a4 ((aD C ((tD t) ((x1-1).toNat)) t.ah).1) ((aD C ((tD t) x1.toNat) t.ah).1) t.ak ((aD C ((tD t) (((((aw C (tD t) t.ah (tN t)):Nat):Int)-1).toNat)) t.ah).1) (br t.a7) 0 (fun _=>0)).2.2):SV)=I ((al t.a4 ((aD C ((tD t) ((x1-1).toNat)) t.ah).1) ((aD C ((tD t) x1.toNat) t.ah).1) t.ak ((aD C ((tD t) (((((aw C (tD t) t.ah (tN t)):Nat):Int)-1).toNat)) t.ah).1) (br t.a7) 0 (fun _=>0)).2.2)from rfl),q_ (show(I ((al t.a4 ((aD C ((tD t) ((x1-1).toNat)) t.ah).1) ((aD C ((tD t) x1.toNat) t.ah).1) t.ak ((aD C ((tD t) (((((aw C (tD t) t.ah (tN t)):Nat):Int)-1).toNat)) t.ah).1) (br t.a7) 0 (fun _=>0)).2.2):SV)=I ((al t.a4 ((aD C ((tD t) ((x1-1).toNat)) t.ah).1) ((aD C ((tD t) x1.toNat) t.ah).1) t.ak ((aD C ((tD t) (((((aw C (tD t) t.ah (tN t)):Nat):Int)-1).toNat)) t.ah).1) (br t.a7) 0 (fun _=>0)).2.2)from rfl)] ?_
  by_cases h5:((al t.a4 ((aD C ((tD t) ((x1-1).toNat)) t.ah).1) ((aD C ((tD t) x1.toNat) t.ah).1) t.ak ((aD C ((tD t) (((((aw C (tD t) t.ah (tN t)):Nat):Int)-1).toNat)) t.ah).1) (br t.a7) 0 (fun _=>0)).2.2)=0
  ·obtain⟨q5002,h6,q5003,h7,h8,h9,k⟩:=K5 h5
   exact hX.h 18 [f_ (bne_eq_false_iff_eq.2 h5),q_ (show ∀ k,k<1→(fun i=>[I ((al t.a4 ((aD C ((tD t) ((x1-1).toNat)) t.ah).1) ((aD C ((tD t) x1.toNat) t.ah).1) t.ak ((aD C ((tD t) (((((aw C (tD t) t.ah (tN t)):Nat):Int)-1).toNat)) t.ah).1) (br t.a7) 0 (fun _=>0)).1),I ((al t.a4 ((aD C ((tD t) ((x1-1).toNat)) t.ah).1) ((aD C ((tD t) x1.toNat) t.ah).1) t.ak ((aD C ((tD t) (((((aw C (tD t) t.ah (tN t)):Nat):Int)-1).toNat)) t.ah).1) (br t.a7) 0 (fun _=>0)).2.1)]) k=[[I ((al t.a4 ((aD C ((tD t) ((x1-1).toNat)) t.ah).1) ((aD C ((tD t) x1.toNat) t.ah).1) t.ak ((aD C ((tD t) (((((aw C (tD t) t.ah (tN t)):Nat):Int)-1).toNat)) t.ah).1) (br t.a7) 0 (fun _=>0)).1),I ((al t.a4 ((aD C ((tD t) ((x1-1).toNat)) t.ah).1) ((aD C ((tD t) x1.toNat) t.ah).1) t.ak ((aD C ((tD t) (((((aw C (tD t) t.ah (tN t)):Nat):Int)-1).toNat)) t.ah).1) (br t.a7) 0 (fun _=>0)).2.1)]].getD k []from by intro k hk;match k,hk with|0,_=>rfl|k+1,hk=>omega),q_ (re 1),q_ (re n12_),q_ h8,q_ (show ∀ k,k<n12_+1→(fun i=>[I (q5002 i),I (q5003 i)]) k=if k<n12_ then(fun i=>[I (g1121 i),I (g1122 i)]) k else(fun i=>[I ((al t.a4 ((aD C ((tD t) ((x1-1).toNat)) t.ah).1) ((aD C ((tD t) x1.toNat) t.ah).1) t.ak ((aD C ((tD t) (((((aw C (tD t) t.ah (tN t)):Nat):Int)-1).toNat)) t.ah).1) (br t.a7) 0 (fun _=>0)).1),I ((al t.a4 ((aD C ((tD t) ((x1-1).toNat)) t.ah).1) ((aD C ((tD t) x1.toNat) t.ah).1) t.ak ((aD C ((tD t) (((((aw C (tD t) t.ah (tN t)):Nat):Int)-1).toNat)) t.ah).1) (br t.a7) 0 (fun _=>0)).2.1)]) (k-n12_)from fun k hk=>by
   have e0:=h6 k hk
   have e1:=h7 k hk
   by_cases c:k<n12_
   ·simp_all
   ·rw[if_neg c]at e0 e1⊢;simp only[e0,e1]),q_ h9,h_ [.row (fun i=>[I ((al t.a4 ((aD C ((tD t) ((x1-1).toNat)) t.ah).1) ((aD C ((tD t) x1.toNat) t.ah).1) t.ak ((aD C ((tD t) (((((aw C (tD t) t.ah (tN t)):Nat):Int)-1).toNat)) t.ah).1) (br t.a7) 0 (fun _=>0)).1),I ((al t.a4 ((aD C ((tD t) ((x1-1).toNat)) t.ah).1) ((aD C ((tD t) x1.toNat) t.ah).1) t.ak ((aD C ((tD t) (((((aw C (tD t) t.ah (tN t)):Nat):Int)-1).toNat)) t.ah).1) (br t.a7) 0 (fun _=>0)).2.1)]), .row (fun i=>[I (q5002 i),I (q5003 i)])]] [.ae 0, .ae 1, .ae 2, .ae 1003, .ae 4, .ae 5, .ae 6, .ae 7, .ae 8, .ae 15] k
  ·have HE:=L5 h5
   obtain⟨HE,HN⟩:=HE
   exact((hX.to HE.symm).same HN).e [t_ (bne_iff_ne.2 h5)]
 ·have HE:=K0 h0
  obtain⟨HE,HN⟩:=HE
  exact((hX.to HE.symm).same HN).e [f_ (df h0)] [5,6,12]
theorem xI {X:Cx} {t:cj} {C:Cl} (hX:Fi X 32 (aB C) (Bi t C (bF t C)) (zC t C)) (h0:fO t=0) (hs:xk t) (hr:dW (fun i=>(tR t C i).2) (tN t)=0) (h6:t.a4=6∧dW (fun i=>(tQ t C i).2) (tG t)=0)
  (hc:bF t C=dW (fun i=>(tP t C i).2.2) (tN t-1)):
  ∀ (f i:Nat),i+f=tN t-1→(∀ j,j<i→(tP t C j).2.2=0)→ ∀ (q1 q2:Nat→Int),(i=0∨(q1=(fun i=>(tP t C i).1)∧q2=(fun i=>(tP t C i).2.1)))→Ok X (mG t C (((i+1:Nat):Nat):Int) i q1 q2)
 |0,i,hi,hj,q1,q2,hq=>by
  have hN:=(kv h0 hs).1
  have e:bF t C=0:=by rw[hc];exact fW (fun j hj'=>hj j (by omega))
  have eN:aw C (tD t) t.ah (tN t)=tN t:=if_pos hr
  have hP:=pY hX e
  rcases hq with hq|⟨rfl,rfl⟩
  ·omega
  have hk:tK t=tG t:=if_pos h6.1
  have eG:aw C (tV t) t.ah (tG t)=tK t:=by rw[hk];exact if_pos h6.2
  refine tf hP ?_
  rw[eN,eG]
  rw[show((((tN t:Nat):Int)-1).toNat)=tN t-1 by omega]
  refine⟨fun c=>absurd c (by omega),fun _=>⟨?_,⟨rfl,rfl,rfl,rfl,fun i _=>rfl⟩,⟨rfl,rfl,rfl,rfl,fun i _=>rfl⟩,⟨rfl,rfl,(show i=tN t-1 by omega),rfl,fun i _=>rfl⟩,⟨rfl,rfl,rfl,rfl,fun i _=>rfl⟩,trivial⟩⟩
  rw[show i=tN t-1 by omega];rfl
 |f+1,i,hi,hj,q1,q2,hq=>by
  have hN:=kv h0 hs
  have eN:aw C (tD t) t.ah (tN t)=tN t:=if_pos hr
  have hk:tK t=tG t:=if_pos h6.1
  have eG:aw C (tV t) t.ah (tG t)=tK t:=by rw[hk];exact if_pos h6.2
  have t1:((((i+1:Nat):Int)).toNat)=i+1:=Int.toNat_natCast _
  have t2:((((i+1:Nat):Int)-1).toNat)=i:=by omega
  have t3:((((tN t:Nat):Int)-1).toNat)=tN t-1:=by omega
  by_cases c:(tP t C i).2.2=0
  ·have step: ∀ {res:SV} {new:List (Option Vw)},Fi X 32 (aB C) res new→Ok X (mG t C (((i+1:Nat):Nat):Int) i q1 q2):=by
    intro res new hX'
    refine tf hX' ?_
    rw[eN,eG,t1,t2,t3]
    refine⟨fun _=>⟨aT (by omega),by omega,by omega,fun c'=> ?_,fun _=>⟨fun k=>(tP t C k).1,fun k hk=> ?_,fun k=>(tP t C k).2.1,fun k hk=> ?_,by omega,aT (by omega), ?_⟩⟩,fun c=>absurd (show(((i+1:Nat):Nat):Int)<((tN t:Nat):Int)by omega) c⟩
    ·exact absurd c c'
    ·by_cases d:k<i
     ·grind
     ·rw[if_neg d,show k=i by omega];rfl
    ·by_cases d:k<i
     ·grind
     ·rw[if_neg d,show k=i by omega];rfl
    ·exact xI hX h0 hs hr h6 hc f (i+1) (by omega) (fun j h=>by
      rcases Nat.lt_or_ge j i with d|d
      ·exact hj j d
      ·rw[show j=i by omega];exact c) _ _ (.inr ⟨rfl,rfl⟩)
   exact step hX
  ·have e:bF t C=(tP t C i).2.2:=by rw[hc];exact gY (f:=fun i=>(tP t C i).2.2) hj c (by omega)
   have hE:=fk rfl hX (by rw[e];exact c)
   rw[e]at hE
   refine tf hE ?_
   rw[eN,eG,t1,t2,t3]
   refine⟨fun _=>⟨aT (by omega),by omega,by omega,fun _=>⟨rfl,trivial⟩,fun c'=>absurd c' c⟩,fun c=>absurd (show(((i+1:Nat):Nat):Int)<((tN t:Nat):Int)by omega) c⟩
mutual
theorem Cg {X:Cx} {t:cj} {C:Cl} (hX:Fi X 32 (aB C) (Bi t C (bF t C)) (zC t C)) (h0:fO t=0) (hs:xk t) (hr:dW (fun i=>(tR t C i).2) (tN t)=0) (h6:t.a4≠6)
  (hc:bF t C=dW (fun i=>(tP t C i).2.2) (tN t-1)):
  ∀ (f i:Nat),i+f=tN t-1→(∀ j,j<i→(tP t C j).2.2=0)→ ∀ (q1 q2:Nat→Int),(i=0∨(q1=(fun i=>(tP t C i).1)∧q2=(fun i=>(tP t C i).2.1)))→Ok X (qf t C (((i+1:Nat):Nat):Int) i q1 q2)
 |0,i,hi,hj,q1,q2,hq=>by
  have hN:=(kv h0 hs).1
  have e:bF t C=0:=by rw[hc];exact fW (fun j hj'=>hj j (by omega))
  have eN:aw C (tD t) t.ah (tN t)=tN t:=if_pos hr
  have hk:tK t=0:=if_neg h6
  have hP0:=pY hX e
  rw[hk]at hP0
  have hP:=av.zH (new:=[ro (tN t) (tD t),ro (tN t) (fun i=>(tR t C i).1),zt (tN t-1) (tP t C)]) (res':= .af [.agg [.sl 2 (tN t), .sl 3 (tN t), .sl 4 (tN t-1),B t.ak,I (tE t C),I (br t.a7), .val (.slice none 0 0)],I 0]) hP0 (fun θ' h=>by have h:θ' 5=_:=h;simp only[den,ax,h])
  rcases hq with hq|⟨rfl,rfl⟩
  ·omega
  have eP: ∀ a b e,al t.a4 a b t.ak e (br t.a7) 0 (fun _=>0)=al t.a4 a b t.ak e (br t.a7) (tK t) (fun i=>(tQ t C i).1):=fun a b e=>(sj h6).symm
  refine td hP ?_
  rw[eN]
  rw[show((((tN t:Nat):Int)-1).toNat)=tN t-1 by omega]
  refine⟨fun c=>absurd c (by omega),fun _=>⟨?_,⟨rfl,rfl,rfl,rfl,fun i _=>rfl⟩,⟨rfl,rfl,rfl,rfl,fun i _=>rfl⟩,⟨rfl,rfl,(show i=tN t-1 by omega),rfl,fun i _=>rfl⟩,trivial⟩⟩
  rw[show i=tN t-1 by omega];rfl
 |f+1,i,hi,hj,q1,q2,hq=>by
  have hN:=kv h0 hs
  have eN:aw C (tD t) t.ah (tN t)=tN t:=if_pos hr
  have hk:tK t=0:=if_neg h6
  have eP: ∀ a b e,al t.a4 a b t.ak e (br t.a7) 0 (fun _=>0)=al t.a4 a b t.ak e (br t.a7) (tK t) (fun i=>(tQ t C i).1):=fun a b e=>(sj h6).symm
  have t1:((((i+1:Nat):Int)).toNat)=i+1:=Int.toNat_natCast _
  have t2:((((i+1:Nat):Int)-1).toNat)=i:=by omega
  have t3:((((tN t:Nat):Int)-1).toNat)=tN t-1:=by omega
  by_cases c:(tP t C i).2.2=0
  ·have step: ∀ {res:SV} {new:List (Option Vw)},Fi X 32 (aB C) res new→Ok X (qf t C (((i+1:Nat):Nat):Int) i q1 q2):=by
    intro res new hX'
    refine td hX' ?_
    rw[eN,t1,t2,t3]
    refine⟨fun _=>⟨aT (by omega),by omega,by omega,h6,fun c'=> ?_,fun _=>⟨fun k=>(tP t C k).1,fun k hk=> ?_,fun k=>(tP t C k).2.1,fun k hk=> ?_,by omega,aT (by omega), ?_⟩⟩,fun c=>absurd (show(((i+1:Nat):Nat):Int)<((tN t:Nat):Int)by omega) c⟩
    ·rw[eP]at c';exact absurd c c'
    ·by_cases d:k<i
     ·grind
     ·rw[if_neg d,show k=i by omega];rw[eP];rfl
    ·by_cases d:k<i
     ·grind
     ·rw[if_neg d,show k=i by omega];rw[eP];rfl
    ·exact xJ hX h0 hs hr h6 hc f (i+1) (by omega) (fun j h=>by
      rcases Nat.lt_or_ge j i with d|d
      ·exact hj j d
      ·rw[show j=i by omega];exact c) _ _ (.inr ⟨rfl,rfl⟩)
   exact step hX
  ·have e:bF t C=(tP t C i).2.2:=by rw[hc];exact gY (f:=fun i=>(tP t C i).2.2) hj c (by omega)
   have hE:=fk rfl hX (by rw[e];exact c)
   rw[e]at hE
   refine td hE ?_
   rw[eN,t1,t2,t3]
   refine⟨fun _=>⟨aT (by omega),by omega,by omega,h6,fun _=>⟨by rw[eP];rfl,trivial⟩,fun c'=>absurd (by rw[eP]at c';exact c') c⟩,fun c=>absurd (show(((i+1:Nat):Nat):Int)<((tN t:Nat):Int)by omega) c⟩
theorem xJ {X:Cx} {t:cj} {C:Cl} (hX:Fi X 32 (aB C) (Bi t C (bF t C)) (zC t C)) (h0:fO t=0) (hs:xk t) (hr:dW (fun i=>(tR t C i).2) (tN t)=0) (h6:t.a4≠6)
  (hc:bF t C=dW (fun i=>(tP t C i).2.2) (tN t-1)):
  ∀ (f i:Nat),i+f=tN t-1→(∀ j,j<i→(tP t C j).2.2=0)→ ∀ (q1 q2:Nat→Int),(i=0∨(q1=(fun i=>(tP t C i).1)∧q2=(fun i=>(tP t C i).2.1)))→Ok X (mF t C (((i+1:Nat):Nat):Int) i q1 q2)
 |0,i,hi,hj,q1,q2,hq=>by
  have hN:=(kv h0 hs).1
  have e:bF t C=0:=by rw[hc];exact fW (fun j hj'=>hj j (by omega))
  have eN:aw C (tD t) t.ah (tN t)=tN t:=if_pos hr
  have hk:tK t=0:=if_neg h6
  have hP0:=pY hX e
  rw[hk]at hP0
  have hP:=av.zH (new:=[ro (tN t) (tD t),ro (tN t) (fun i=>(tR t C i).1),zt (tN t-1) (tP t C)]) (res':= .af [.agg [.sl 2 (tN t), .sl 3 (tN t), .sl 4 (tN t-1),B t.ak,I (tE t C),I (br t.a7), .val (.slice none 0 0)],I 0]) hP0 (fun θ' h=>by have h:θ' 5=_:=h;simp only[den,ax,h])
  rcases hq with hq|⟨rfl,rfl⟩
  ·omega
  have eP: ∀ a b e,al t.a4 a b t.ak e (br t.a7) 0 (fun _=>0)=al t.a4 a b t.ak e (br t.a7) (tK t) (fun i=>(tQ t C i).1):=fun a b e=>(sj h6).symm
  refine te hP ?_
  rw[eN]
  rw[show((((tN t:Nat):Int)-1).toNat)=tN t-1 by omega]
  refine⟨fun c=>absurd c (by omega),fun _=>⟨?_,⟨rfl,rfl,rfl,rfl,fun i _=>rfl⟩,⟨rfl,rfl,rfl,rfl,fun i _=>rfl⟩,⟨rfl,rfl,(show i=tN t-1 by omega),rfl,fun i _=>rfl⟩,trivial⟩⟩
  rw[show i=tN t-1 by omega];rfl
 |f+1,i,hi,hj,q1,q2,hq=>by
  have hN:=kv h0 hs
  have eN:aw C (tD t) t.ah (tN t)=tN t:=if_pos hr
  have hk:tK t=0:=if_neg h6
  have eP: ∀ a b e,al t.a4 a b t.ak e (br t.a7) 0 (fun _=>0)=al t.a4 a b t.ak e (br t.a7) (tK t) (fun i=>(tQ t C i).1):=fun a b e=>(sj h6).symm
  have t1:((((i+1:Nat):Int)).toNat)=i+1:=Int.toNat_natCast _
  have t2:((((i+1:Nat):Int)-1).toNat)=i:=by omega
  have t3:((((tN t:Nat):Int)-1).toNat)=tN t-1:=by omega
  by_cases c:(tP t C i).2.2=0
  ·have step: ∀ {res:SV} {new:List (Option Vw)},Fi X 32 (aB C) res new→Ok X (mF t C (((i+1:Nat):Nat):Int) i q1 q2):=by
    intro res new hX'
    refine te hX' ?_
    rw[eN,t1,t2,t3]
    refine⟨fun _=>⟨aT (by omega),by omega,by omega,h6,fun c'=> ?_,fun _=>⟨fun k=>(tP t C k).1,fun k hk=> ?_,fun k=>(tP t C k).2.1,fun k hk=> ?_,by omega,aT (by omega), ?_⟩⟩,fun c=>absurd (show(((i+1:Nat):Nat):Int)<((tN t:Nat):Int)by omega) c⟩
    ·rw[eP]at c';exact absurd c c'
    ·by_cases d:k<i
     ·grind
     ·rw[if_neg d,show k=i by omega];rw[eP];rfl
    ·by_cases d:k<i
     ·grind
     ·rw[if_neg d,show k=i by omega];rw[eP];rfl
    ·exact Cg hX h0 hs hr h6 hc f (i+1) (by omega) (fun j h=>by
      rcases Nat.lt_or_ge j i with d|d
      ·exact hj j d
      ·rw[show j=i by omega];exact c) _ _ (.inr ⟨rfl,rfl⟩)
   exact step hX
  ·have e:bF t C=(tP t C i).2.2:=by rw[hc];exact gY (f:=fun i=>(tP t C i).2.2) hj c (by omega)
   have hE:=fk rfl hX (by rw[e];exact c)
   rw[e]at hE
   refine te hE ?_
   rw[eN,t1,t2,t3]
   refine⟨fun _=>⟨aT (by omega),by omega,by omega,h6,fun _=>⟨by rw[eP];rfl,trivial⟩,fun c'=>absurd (by rw[eP]at c';exact c') c⟩,fun c=>absurd (show(((i+1:Nat):Nat):Int)<((tN t:Nat):Int)by omega) c⟩
end
theorem G6 (t:cj) {C:Cl} (hs:xk t) (hC:bU C):S 32 [KN t,qY C] (aB C) (Bi t C (bF t C)) (zC t C):=by
 refine ab.st fun X hX=> ?_
 by_cases h0:fO t=0
 ·have hN:=kv h0 hs
  have hG:=AR h0 hs
  by_cases hr:dW (fun i=>(tR t C i).2) (tN t)=0
  ·have eN:aw C (tD t) t.ah (tN t)=tN t:=if_pos hr
   by_cases h6:t.a4=6
   ·by_cases hg:dW (fun i=>(tQ t C i).2) (tG t)=0
    ·have hc:bF t C=dW (fun i=>(tP t C i).2.2) (tN t-1):=by unfold bF;rw[if_neg (by rw[h0];decide),if_neg (by rw[hr];decide),if_neg (by rintro ⟨-,c⟩;exact c hg)]
     refine mD hX ⟨hs,fun c=>absurd h0 c,fun _=>⟨hC,show tN t≤10000 by omega,fun i hi=>sV h0 hs hi,fun c=>absurd hr c,fun _=> ?_⟩⟩
     rw[eN]
     exact⟨aT (by omega),by omega,fun _=>⟨show tG t≤10000 by omega,fun i hi=>ze h0 hs hi,fun c=>absurd hg c,fun _=>xI hX h0 hs hr ⟨h6,hg⟩ hc (tN t-1) 0 (by omega) (fun j h=>absurd h (Nat.not_lt_zero _)) _ _ (.inl rfl)⟩,fun c=>absurd h6 c⟩
    ·have e:bF t C=dW (fun i=>(tQ t C i).2) (tG t):=by unfold bF;rw[if_neg (by rw[h0];decide),if_neg (by rw[hr];decide),if_pos ⟨h6,hg⟩]
     have hE:=fk rfl hX (by rw[e];exact hg)
     rw[e]at hE
     refine mD hE ⟨hs,fun c=>absurd h0 c,fun _=>⟨hC,show tN t≤10000 by omega,fun i hi=>sV h0 hs hi,fun c=>absurd hr c,fun _=> ?_⟩⟩
     rw[eN]
     exact⟨aT (by omega),by omega,fun _=>⟨show tG t≤10000 by omega,fun i hi=>ze h0 hs hi,fun _=>⟨rfl,trivial⟩,fun c=>absurd c hg⟩,fun c=>absurd h6 c⟩
   ·have hc:bF t C=dW (fun i=>(tP t C i).2.2) (tN t-1):=by unfold bF;rw[if_neg (by rw[h0];decide),if_neg (by rw[hr];decide),if_neg (by rintro ⟨c, -⟩;exact h6 c)]
    refine mD hX ⟨hs,fun c=>absurd h0 c,fun _=>⟨hC,show tN t≤10000 by omega,fun i hi=>sV h0 hs hi,fun c=>absurd hr c,fun _=> ?_⟩⟩
    rw[eN]
    exact⟨aT (by omega),by omega,fun c=>absurd c h6,fun _=>xJ hX h0 hs hr h6 hc (tN t-1) 0 (by omega) (fun j h=>absurd h (Nat.not_lt_zero _)) _ _ (.inl rfl)⟩
  ·have e:bF t C=dW (fun i=>(tR t C i).2) (tN t):=by unfold bF;rw[if_neg (by rw[h0];decide),if_pos hr]
   have hE:=fk rfl hX (by rw[e];exact hr)
   rw[e]at hE
   exact mD hE ⟨hs,fun c=>absurd h0 c,fun _=>⟨hC,show tN t≤10000 by omega,fun i hi=>sV h0 hs hi,fun _=>⟨rfl,trivial⟩,fun c=>absurd c hr⟩⟩
 ·have e:bF t C=fO t:=if_pos h0
  have hE:=fk rfl hX (by rw[e];exact h0)
  rw[e]at hE
  exact mD hE ⟨hs,fun _=>⟨rfl,trivial⟩,fun c=>absurd c h0⟩
noncomputable def ou (n1:Nat) (g2:Nat→Int) (g3:Nat→Int) (n4:Nat) (g5:Nat→Int) (g6:Nat→Int) (x1:Int):SC:=
 ⟨[⟨59,bJ 26 [(0, .sl 0 n1),(1, .sl 1 n4),(5,I x1)],[.code (aa Tryz.f59 [1,1,0,1,0,0]), .inLoop (aa Tryz.f59 [1,1,0,1,0,0]), .inBlock 0, .code (aa Tryz.f59 [1,1,1])],{}⟩],[some (.row false 121 n1 2 (fun i=>[I (g2 i),I (g3 i)])),some (.row false 121 n4 2 (fun i=>[I (g5 i),I (g6 i)]))]⟩
theorem Cf {X:Cx} {n1:Nat} {g2 g3:Nat→Int} {n4:Nat} {g5 g6:Nat→Int} {res:SV} (hX:Fi X 59 [some (.row false 121 n1 2 (fun i=>[I (g2 i),I (g3 i)])),some (.row false 121 n4 2 (fun i=>[I (g5 i),I (g6 i)]))] (res) []) (H:(((n1:Nat):Int)≠((n4:Nat):Int)→(B false:SV)=res)∧(((n1:Nat):Int)=((n4:Nat):Int)→Ok X (ou n1 g2 g3 n4 g5 g6 0))):
  Ok X (entry Tryz.prog 59 [.sl 0 n1, .sl 1 n4] [some (.row false 121 n1 2 (fun i=>[I (g2 i),I (g3 i)])),some (.row false 121 n4 2 (fun i=>[I (g5 i),I (g6 i)]))]):=by
 obtain⟨L0,K0⟩:=H
 by_cases h0:((n1:Nat):Int)=((n4:Nat):Int)
 ·have k:=K0 h0
  exact hX.h 22 [f_ (bne_eq_false_iff_eq.2 h0)] (aA 2) k
 ·have HE:=L0 h0
  exact(hX.to HE.symm).e [t_ (bne_iff_ne.2 h0)]
theorem vC {X:Cx} {n1:Nat} {g2 g3:Nat→Int} {n4:Nat} {g5 g6:Nat→Int} {x1:Int} {res:SV} (hX:Fi X 59 [some (.row false 121 n1 2 (fun i=>[I (g2 i),I (g3 i)])),some (.row false 121 n4 2 (fun i=>[I (g5 i),I (g6 i)]))] (res) []) (H:(x1<((n1:Nat):Int)→((0:Int)≤x1∧x1<((n1:Nat):Int))∧((0:Int)≤x1∧x1<((n4:Nat):Int))∧((((g2 x1.toNat)==(g5 x1.toNat))&&(((g3 x1.toNat)==(g6 x1.toNat))&&true))=false→(B false:SV)=res)∧((((g2 x1.toNat)==(g5 x1.toNat))&&(((g3 x1.toNat)==(g6 x1.toNat))&&true))=true→Ir (x1+1)∧Ok X (ou n1 g2 g3 n4 g5 g6 (x1+1))))∧(¬x1<((n1:Nat):Int)→(B true:SV)=res)):
  Ok X (ou n1 g2 g3 n4 g5 g6 x1):=by
 obtain⟨L0,K0⟩:=H
 by_cases h0:x1<((n1:Nat):Int)
 ·obtain⟨h1,h2,L3,K3⟩:=L0 h0
  refine hX.go [t_ (dt h0),q_ h1,q_ (re n1),q_ h1,q_ h2,q_ (re n4),q_ h2,d_ 8] ?_
  rcases aq (((g2 x1.toNat)==(g5 x1.toNat))&&(((g3 x1.toNat)==(g6 x1.toNat))&&true))with h3|h3
  ·obtain⟨h4,k⟩:=K3 h3
   exact hX.h 9 [f_ (nf h3),q_ h4] (aA 2) k
  ·have HE:=L3 h3
   exact(hX.to HE.symm).e [t_ (nt h3)]
 ·have HE:=K0 h0
  exact(hX.to HE.symm).e [f_ (df h0)]
theorem xH {X:Cx} {n:Nat} {g2 g3 g5 g6:Nat→Int} {res:SV} (hX:Fi X 59 [some (.row false 121 n 2 (fun i=>[I (g2 i),I (g3 i)])),some (.row false 121 n 2 (fun i=>[I (g5 i),I (g6 i)]))] res []) (hn:n≤10000)
  (hr:B (decide (n=n∧ ∀ i,i<n→g2 i=g5 i∧g3 i=g6 i))=res): ∀ (f i:Nat),i+f=n→(∀ j,j<i→g2 j=g5 j∧g3 j=g6 j)→Ok X (ou n g2 g3 n g5 g6 (i:Int))
 |0,i,hi,hj=>vC hX ⟨fun c=>absurd c (by omega),fun _=>by rw[←hr,decide_eq_true ⟨rfl,fun j h=>hj j (by omega)⟩]⟩
 |f+1,i,hi,hj=>by
  have ti:((i:Int)).toNat=i:=Int.toNat_natCast _
  refine vC hX ⟨fun _=> ?_,fun c=>absurd (show(i:Int)<((n:Nat):Int)by omega) c⟩
  rw[ti]
  refine⟨by omega,by omega,fun c=> ?_,fun c=>⟨aT (by omega),xH hX hn hr f (i+1) (by omega) (fun j h=> ?_)⟩⟩
  ·rw[←hr,decide_eq_false (fun q=>by have:=q.2 i (by omega);simp[this.1,this.2]at c)]
  grind
theorem Iz {n m:Nat} {g2 g3 g5 g6:Nat→Int} (hn:n≤10000):S 59 [.sl 0 n, .sl 1 m] [some (.row false 121 n 2 (fun i=>[I (g2 i),I (g3 i)])),some (.row false 121 m 2 (fun i=>[I (g5 i),I (g6 i)]))] (B (decide (n=m∧ ∀ i,i<n→g2 i=g5 i∧g3 i=g6 i))) []:=by
 refine ab.st fun X hX=>Cf hX ⟨fun c=> ?_,fun c=> ?_⟩
 ·rw[decide_eq_false (fun q=>c (by rw[q.1]))]
 ·have e:n=m:=by omega
  subst e
  exact xH hX hn rfl n 0 (by omega) (fun j h=>absurd h (Nat.not_lt_zero _))
theorem Df {a1 a2 a3 a4 a5 a6 a7:Int} {a8 a9 ak:Bool} {ah a12:Int} {res:SV} (H:Ir (31*a12)∧((IntKind.wrap .i64 (a6-a5))≤(31*a12)→(B (decide (a5≤a6)):SV)=res)∧(¬(IntKind.wrap .i64 (a6-a5))≤(31*a12)→(B false:SV)=res)):
  S 30 [.agg [I a1,I a2,I a3,I a4,I a5,I a6,I a7,B a8,B a9,B ak,I ah],I a12] [] (res) []:=by
 refine ab.st fun X hX=> ?_
 obtain⟨h0,L1,K1⟩:=H
 refine hX.go [q_ h0,h_ [.w, .t]] ?_
 by_cases h1:(IntKind.wrap .i64 (a6-a5))≤(31*a12)
 ·have HE:=L1 h1
  exact(hX.to HE.symm).e [n_ 6 (t_ (dt h1))]
 ·have HE:=K1 h1
  exact(hX.to HE.symm).e [n_ 6 (f_ (df h1))]
def HW (s e k:Int):Bool:=decide (IntKind.wrap .i64 (e-s)≤31*k∧s≤e)
theorem HV {s e k:Int} (h:Ir (e-s)):HW s e k=Ld s e k:=by unfold HW Ld;rw[bG h]
theorem FU (a1 a2 a3 a4 a5 a6 a7:Int) (a8 a9 ak:Bool) (ah k:Int) (h1:Ir (31*k)):
  S 30 [.agg [I a1,I a2,I a3,I a4,I a5,I a6,I a7,B a8,B a9,B ak,I ah],I k] [] (B (HW a5 a6 k)) []:=by
 grind [Df,HW]
theorem FT {t:cj} {C:Cl} {m:Int} {res:SV} (H:((Ah C)=false→(B false:SV)=res)∧((Ah C)=true→((dI C)=false→(B false:SV)=res)∧((dI C)=true→Ir (31*m)∧((fO t)≠0→(B true:SV)=res)∧((fO t)=0→(B (HW t.a5 t.a6 m):SV)=res)))):
  S 11 [.agg [I t.a1,I t.a2,I t.a3,I t.a4,I t.a5,I t.a6,I t.a7,B t.a8,B t.a9,B t.ak,I t.ah], .agg [B (C.off 0),B (C.off 1),B (C.off 2),B (C.off 3),B (C.off 4),B (C.off 5),B (C.off 6), .sl 0 C.nr, .sl 1 C.nd],I m] (aB C) (res) []:=by
 refine ab.st fun X hX=> ?_
 obtain⟨L0,K0⟩:=H
 refine hX.go [c_ [0,1] (show S 28 [.agg [B (C.off 0),B (C.off 1),B (C.off 2),B (C.off 3),B (C.off 4),B (C.off 5),B (C.off 6), .sl 0 C.nr, .sl 1 C.nd]] (aB C) (B (Ah C)) []from Io),c_ [0,1] (show S 29 [.agg [B (C.off 0),B (C.off 1),B (C.off 2),B (C.off 3),B (C.off 4),B (C.off 5),B (C.off 6), .sl 0 C.nr, .sl 1 C.nd]] (aB C) (B (dI C)) []from Im)] ?_
 rcases aq (Ah C)with h0|h0
 ·obtain⟨L1,K1⟩:=K0 h0
  refine hX.go [n_ 3 (f_ (nf h0))] ?_
  rcases aq (dI C)with h1|h1
  ·obtain⟨h2,L3,K3⟩:=K1 h1
   refine hX.go [f_ (nf h1),c_ [] (DB t.a1 t.a2 t.a3 t.a4 t.a5 t.a6 t.a7 t.a8 t.a9 t.ak t.ah),c_ [] (show S 30 [.agg [I t.a1,I t.a2,I t.a3,I t.a4,I t.a5,I t.a6,I t.a7,B t.a8,B t.a9,B t.ak,I t.ah],I m] [] (B (HW t.a5 t.a6 m)) []from FU _ _ _ _ _ _ _ _ _ _ _ _ h2)] ?_
   by_cases h3:(fO t)=0
   ·have HE:=K3 h3
    exact(hX.to HE.symm).e [f_ (bne_eq_false_iff_eq.2 h3),f_ (bne_eq_false_iff_eq.2 h3)]
   ·have HE:=L3 h3
    exact(hX.to HE.symm).e [t_ (bne_iff_ne.2 h3),t_ (bne_iff_ne.2 h3)]
  ·have HE:=L1 h1
   exact(hX.to HE.symm).e [t_ (nt h1)]
 ·have HE:=L0 h0
  exact(hX.to HE.symm).e [n_ 3 (t_ (nt h0)),t_ rt]
noncomputable def HX (t:cj) (C:Cl) (m:Int):Bool:=Ah C&&(dI C&&(decide (fO t≠0)||HW t.a5 t.a6 m))
theorem HS {t:cj} (h:fO t=0):Ir (t.a6-t.a5):=by
 have hL:=iG h
 have d1:=aP.1 hL.ds
 have d2:=aP.1 hL.de
 exact aT (by omega)
theorem JO {t:cj} {C:Cl} {m:Int} (h:HX t C m=true) (hm:m≤200):bU C∧xk t∧(fO t=0→t.a6-t.a5≤31*m):=by
 unfold HX at h
 simp only[Bool.and_eq_true,Bool.or_eq_true,decide_eq_true_eq]at h
 obtain⟨-,h2,h3⟩:=h
 have k:fO t=0→t.a6-t.a5≤31*m:=fun c=>by
  have h4:=h3.resolve_left (fun d=>d c)
  rw[HV (HS c)]at h4
  exact(JP h4).1
 exact⟨uw.1 h2,fun c=>by have:=k c;have:=(iG c).m1;omega,k⟩
theorem Dr (t:cj) {C:Cl} {m:Int} (hm:0≤m∧m≤1000):S 11 [KN t,qY C,I m] (aB C) (B (HX t C m)) []:=by
 unfold HX
 refine FT ⟨fun c=>by rw[c];rfl,fun c=>⟨fun d=>by rw[c,d];rfl,fun d=> ?_⟩⟩
 rw[c,d]
 exact⟨aT (by omega),fun e=>by rw[decide_eq_true (show fO t≠0 from e)];rfl,fun e=>by rw[decide_eq_false (show¬fO t≠0 from fun z=>z e)];rfl⟩
end Go.Proofs.YtelidogcomffkaaGreatDoor
namespace Go.Proofs.YtelidogcomffkaaGreatDoor
open Go Go.Sx
variable [dc]
theorem Lr {P:Program} {gl:List (Nat×Vw)} {f:FuncId} {args args':List SV} {el1 el2:TypeId} {s1 s2:Nat} {g1 g2:Nat→List SV} {res res':SV} {new:List (Option Vw)}
  (h:ab P gl f args [some (.row false el1 0 s1 g1),some (.row false el2 0 s2 g2)] res new) (hn:jo 0 new)
  (ha: ∀ θ θ':Th,θ 0=⟨none,0,s1⟩→θ 1=⟨none,0,s2⟩→ax θ args=ax θ' args') (hr: ∀ θ θ':Th,(∀ k,θ (k+2)=θ' k)→den θ res=den θ' res'):ab P gl f args' [] res' new:=by
 intro θ w hh hg cs
 have hz: ∀ a b:Th,Go.Sx.az 0 a b:=fun a b t ht=>absurd ht (Nat.not_lt_zero _)
 let up:Th→Th:=fun θ t=>if t=0 then⟨none,0,s1⟩else if t=1 then⟨none,0,s2⟩else θ (t-2)
 have u0: ∀ θ,up θ 0=⟨none,0,s1⟩:=fun θ=>if_pos rfl
 have u1: ∀ θ,up θ 1=⟨none,0,s2⟩:=fun θ=>by show(if 1=0 then _ else _)=_;rw[if_neg (by decide),if_pos rfl]
 have u2: ∀ θ k,up θ (k+2)=θ k:=fun θ k=>by show(if k+2=0 then _ else _)=_;rw[if_neg (by omega),if_neg (by omega)];congr 1
 have nilOk: ∀ (θ:Th) (el:TypeId) (s:Nat) (g:Nat→List SV),aX θ w.heap.size w ⟨none,0,s⟩ (.row false el 0 s g):=fun θ el s g=>
  ⟨rfl,Nat.le_refl _,⟨.inl rfl,(fun a ha=>by cases ha)⟩,fun i hi=>absurd hi (Nat.not_lt_zero _),(fun a ha=>by cases ha),(fun h=>by cases h)⟩
 have hh2:bm (up θ) w.heap.size [some (.row false el1 0 s1 g1),some (.row false el2 0 s2 g2)] w:=by
  refine⟨fun t u hu=> ?_,fun t t' u u' hu hu' hne hown=> ?_⟩
  ·match t,hu with
   |0,hu=>simp only[List.getElem?_cons_zero,Option.some.injEq]at hu;subst hu;rw[u0];exact nilOk _ _ _ _
   |1,hu=>simp only[List.getElem?_cons_succ,List.getElem?_cons_zero,Option.some.injEq]at hu;subst hu;rw[u1];exact nilOk _ _ _ _
   |t+2,hu=>simp at hu
  ·have:u.own=false:=by
    match t,hu with
    |0,hu=>simp only[List.getElem?_cons_zero,Option.some.injEq]at hu;subst hu;rfl
    |1,hu=>simp only[List.getElem?_cons_succ,List.getElem?_cons_zero,Option.some.injEq]at hu;subst hu;rfl
    |t+2,hu=>simp at hu
   rw[this]at hown;cases hown
 obtain⟨e,w',fr',⟨hb,r,he,nw,hk⟩,hc,h3,h4⟩:=h (up θ) w hh2 hg cs
 rw[ha (up θ) θ (u0 θ) (u1 θ)]at hc
 refine⟨e,w',fr',⟨hb,r,he,nw,fun θ' hs' hk'=> ?_⟩,hc,h3,h4⟩
 obtain⟨h5,h6⟩:=hk (up θ') (fun t ht=>by
  match t,ht with
  |0,_=>rw[u0,u0]
  |1,_=>rw[u1,u1]) (fun k hk2=>by
  show up θ' (2+k)=_
  rw[Nat.add_comm,u2,←hk' k hk2]
  show θ' k=θ' (0+k)
  rw[Nat.zero_add])
 rw[hr (up θ') θ' (u2 θ')]at h5
 refine⟨h5,fun t u hu=> ?_,fun t t' u u' hu hu' hne hown hl a a' haa haa'=> ?_⟩
 ·have hu2:new[t]? =some (some u):=hu
  have:=(h6.vw (t+2) u (by simpa using hu2)).sc (hz _ θ') (hn.get hu2)
  rwa [u2]at this
 ·exact h6.ne (t+2) (t'+2) u u' (by simpa using hu) (by simpa using hu') (by omega) hown hl a a' (by rw[u2];exact haa) (by rw[u2];exact haa')
theorem FV {n m:Nat} {g2 g3 g5 g6:Nat→Int} (h:n=m∧ ∀ i,i<n→g2 i=g5 i∧g3 i=g6 i) (hn:n≤10000):S 59 [.sl 0 n, .sl 1 m] [some (.row false 121 n 2 (fun i=>[I (g2 i),I (g3 i)])),some (.row false 121 m 2 (fun i=>[I (g5 i),I (g6 i)]))] (B true) []:=by
 have:=Iz (n:=n) (m:=m) (g2:=g2) (g3:=g3) (g5:=g5) (g6:=g6) hn
 rw[decide_eq_true h]at this
 exact this
theorem FR {n1 m1 p1 k1:Nat} {f1 g1 x1 y1 z1:Nat→Int} {n2 m2 p2 k2:Nat} {f2 g2 x2 y2 z2:Nat→Int} {b:Bool} {e q:Int} {res:SV} (H:(n1=n2∧ ∀ i,i<n1→f1 i=f2 i)∧n1≤100000∧(m1=m2∧ ∀ i,i<m1→g1 i=g2 i)∧m1≤100000∧(k1=k2∧ ∀ i,i<k1→z1 i=z2 i)∧k1≤100000∧(p1=p2∧ ∀ i,i<p1→x1 i=x2 i∧y1 i=y2 i)∧p1≤10000∧((b==b)=true→(e=e→(B (q==q):SV)=res)∧(e≠e→(B false:SV)=res))∧((b==b)=false→(B false:SV)=res)):
  S 33 [.agg [.sl 0 n1, .sl 1 m1, .sl 2 p1,B b,I e,I q, .sl 3 k1], .agg [.sl 4 n2, .sl 5 m2, .sl 6 p2,B b,I e,I q, .sl 7 k2]] [ri n1 f1,ri m1 g1,some (.row false 121 p1 2 (fun i=>[I (x1 i),I (y1 i)])),ri k1 z1,ri n2 f2,ri m2 g2,some (.row false 121 p2 2 (fun i=>[I (x2 i),I (y2 i)])),ri k2 z2] (res) []:=by
 refine ab.st fun X hX=> ?_
 obtain⟨h0,h1,h2,h3,h4,h5,h6,h7,L8,K8⟩:=H
 refine hX.go [c_ [0,4] (show S 58 [.sl 0 n1, .sl 1 n2] [ri n1 f1,ri n2 f2] (B true) []from Ds h0 h1),c_ [1,5] (show S 58 [.sl 0 m1, .sl 1 m2] [ri m1 g1,ri m2 g2] (B true) []from Ds h2 h3),c_ [3,7] (show S 58 [.sl 0 k1, .sl 1 k2] [ri k1 z1,ri k2 z2] (B true) []from Ds h4 h5),c_ [2,6] (show S 59 [.sl 0 p1, .sl 1 p2] [some (.row false 121 p1 2 (fun i=>[I (x1 i),I (y1 i)])),some (.row false 121 p2 2 (fun i=>[I (x2 i),I (y2 i)]))] (B true) []from FV h6 h7),n_ 14 (t_ rt)] ?_
 rcases aq (b==b)with h8|h8
 ·obtain⟨L9,K9⟩:=L8 h8
  refine hX.go [n_ 8 (t_ h8)] ?_
  by_cases h9:e=e
  ·have HE:=L9 h9
   exact(hX.to HE.symm).e [n_ 8 (t_ (beq_iff_eq.2 h9))]
  ·have HE:=K9 h9
   exact(hX.to HE.symm).e [n_ 8 (f_ (beq_eq_false_iff_ne.2 h9))]
 ·have HE:=K8 h8
  exact(hX.to HE.symm).e [n_ 8 (f_ h8),n_ 8 (f_ rf)]
theorem J1 {n1 m1 p1 k1 n2 m2 p2 k2:Nat} {f1 g1 x1 y1 z1 f2 g2 x2 y2 z2:Nat→Int} {b b':Bool} {e q e' q':Int} (h1:n1=n2∧ ∀ i,i<n1→f1 i=f2 i) (h2:m1=m2∧ ∀ i,i<m1→g1 i=g2 i) (h3:k1=k2∧ ∀ i,i<k1→z1 i=z2 i)
  (h4:p1=p2∧ ∀ i,i<p1→x1 i=x2 i∧y1 i=y2 i) (h5:b=b') (h6:e=e') (h7:q=q') (l1:n1≤10000) (l2:m1≤10000) (l3:k1≤10000) (l4:p1≤10000):
  S 33 [.agg [.sl 0 n1, .sl 1 m1, .sl 2 p1,B b,I e,I q, .sl 3 k1], .agg [.sl 4 n2, .sl 5 m2, .sl 6 p2,B b',I e',I q', .sl 7 k2]] [ri n1 f1,ri m1 g1,some (.row false 121 p1 2 (fun i=>[I (x1 i),I (y1 i)])),ri k1 z1,ri n2 f2,ri m2 g2,some (.row false 121 p2 2 (fun i=>[I (x2 i),I (y2 i)])),ri k2 z2] (B true) []:=by
 subst h5 h6 h7
 exact FR ⟨h1,by omega,h2,by omega,h3,by omega,h4,l4,fun _=>⟨fun _=>by rw[beq_self_eq_true],fun c=>absurd rfl c⟩,fun c=>by cases b<;>cases c⟩
noncomputable def mr:Cl:=⟨fun _=>false,0,fun _=>⟨0,0,0,0,0,0,0,0⟩,0,fun _=>0⟩
theorem Gw:bU mr:=⟨by decide,Nat.zero_le _,Nat.zero_le _,fun i hi=>absurd hi (Nat.not_lt_zero _),fun i hi=>absurd hi (Nat.not_lt_zero _),fun i hi=>absurd hi (Nat.not_lt_zero _)⟩
theorem Le (t:cj) (hs:xk t):S 31 [KN t, .agg [B false,B false,B false,B false,B false,B false,B false, .val (.slice none 0 0), .val (.slice none 0 0)]] [] (.af [.agg [.sl 0 (eA t mr), .sl 1 (eA t mr), .sl 2 (eA t mr-1),B (DL t mr),I (DK t mr),I (DJ t mr), .sl 3 (uM t mr)],I (bF t mr)]) (zC t mr):=
 Lr (Ma t hs Gw) ⟨fun i=>rfl,fun i=>rfl,fun i=>rfl,fun i=>rfl,trivial⟩ (fun θ θ' h0 h1=>by
  have e1:mr.nr=0:=rfl
  have e2:mr.nd=0:=rfl
  simp only[ax,den,h0,h1,e1,e2];rfl) (fun θ θ' hk=>by simp only[Bi,den,ax,hk 0,hk 1,hk 2,hk 3])
end Go.Proofs.YtelidogcomffkaaGreatDoor
