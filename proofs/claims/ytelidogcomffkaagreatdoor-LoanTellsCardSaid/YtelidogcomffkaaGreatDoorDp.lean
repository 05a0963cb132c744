/-
A loan's days (chapter 16), in plain Lean: where they stand, that they rise.
-/
import Derived.Test.YtelidogcomffkaaGreatDoorGd
import Derived.Test.YtelidogcomffkaaGreatDoorCa
import Derived.Test.YtelidogcomffkaaGreatDoorProg
import Derived.KernelRfl
set_option linter.unusedSectionVars false
set_option linter.unusedSimpArgs false
set_option linter.unusedVariables false
set_option maxRecDepth 100000
namespace Go.Proofs.YtelidogcomffkaaGreatDoor
open Go Go.Sx
variable [dc]
noncomputable def bu (x1:Int) (x2:Int) (x3:Int) (x4:Int) (x5:Int) (x6:Int) (x7:Int) (x8:Int) (b9:Bool) (b10:Bool) (b11:Bool) (x12:Int) (n1_:Nat) (g1011:Nat→Int):SC:=
 ⟨[⟨56,bJ 75 [(1, .ptr 0 0),(5, .sl 1 n1_),(6,I x1)],[.code (aa Tryz.f56 [1,1,1,1,0,1,0,0]), .inLoop (aa Tryz.f56 [1,1,1,1,0,1,0,0]), .inBlock 0, .code (aa Tryz.f56 [1,1,1,1,1])],{}⟩],[some (.box true [I x2,I x3,I x4,I x5,I x6,I x7,I x8,B b9,B b10,B b11,I x12]),ro n1_ g1011]⟩
theorem FM {X:Cx} {a1 a2 a3 a4 a5 a6 a7:Int} {a8 a9 ak:Bool} {ah:Int} (st:Nat→Int×Int) (hst:st=mw a5 a6 a7 a8 ak) (N:Nat) (hNe:N=gN a5 a6 a7 a8 ak) (hN:N≤1000) (hm:1≤a7∧a7≤12)
  (hX:av X Tryz.prog GL 56 [] (.af [.sl 0 N,I 0]) [ro N (oF a5 a6 a7 a8 ak)]):
  ∀ (f k n:Nat) (x:Int) (g:Nat→Int),x=(k:Int)→n=k→k+f=1300→eU st a5 a6 f k=N→(∀ i,i<k→g i=(st (if a8=true then k-1-i else i)).1)→
    Ok X (bu x a1 a2 a3 a4 a5 a6 a7 a8 a9 ak ah n g):=by
 subst hst
 obtain⟨st,hst⟩: ∃ st,st=mw a5 a6 a7 a8 ak:=⟨_,rfl⟩
 rw[←hst]
 have fin: ∀ (m:Nat) (q:Nat→Int),m=N→(∀ i,i<m→q i=oF a5 a6 a7 a8 ak i)→av X Tryz.prog GL 56 [] (.af [.sl 0 m,I 0]) [ro m q]:=fun m q hm hq=>by
  subst hm
  refine av.same hX ⟨⟨rfl,rfl,rfl,rfl,fun i hi=> ?_⟩,trivial⟩
  show[I (q i)]=_;rw[hq i hi]
 have gcE: ∀ i,oF a5 a6 a7 a8 ak i=(st (if a8=true then N-1-i else i)).1:=fun i=>by unfold oF;rw[←hst,←hNe]
 intro f
 induction f with
 |zero=>intro k n x g hx hn hk hc _;exact absurd hc (by unfold eU;omega)
 |succ f ih=>
  intro k n x g hx hn hk hc hg
  have hkN:k≤N:=by rw[←hc];exact(oC (f+1) k).1
  have m1:x*a7≤x*12:=Int.mul_le_mul_of_nonneg_left hm.2 (by omega)
  have m2:x*1≤x*a7:=Int.mul_le_mul_of_nonneg_left hm.1 (by omega)
  by_cases h0:x<1300
  ·refine hX.go [t_ (dt h0)] ?_
   rcases aq a8 with h1|h1
   ·have hv:mv a6 ((0-x)*a7) ak=st k:=by rw[hst];unfold mw;rw[if_pos h1,hx,Int.zero_sub,Int.neg_mul,Int.mul_neg]
    have m3:(0-x)*a7= -(x*a7):=by rw[Int.zero_sub,Int.neg_mul]
    have h2:Ir (0-x):=by simp only[Ir,aj];omega
    have h3:Ir ((0-x)*a7):=by simp only[Ir,aj];omega
    refine hX.go [t_ h1,q_ h2,q_ h3,c_ [] (G8 a6 ((0-x)*a7) ak)] ?_
    by_cases h4:((mv a6 ((0-x)*a7) ak).2)=0
    ·obtain⟨q,h5⟩: ∃ q:Nat→Int, ∀ k,k<(1+n)→q k=if k<1 then((mv a6 ((0-x)*a7) ak).1)else(g (k-1)):=⟨_,fun k _=>rfl⟩
     have hz:(st k).2=0:=by rw[←hv];exact h4
     have hq: ∀ i,i<k+1→q i=(st (k-i)).1:=fun i hi=>by
      rw[h5 i (by omega)]
      by_cases c:i<1
      ·rw[if_pos c,hv,show k-i=k by omega]
      ·rw[if_neg c,hg (i-1) (by omega),if_pos h1,show k-1-(i-1)=k-i by omega]
     have h6:(1+n)*8≤140737488355328:=by omega
     refine hX.go [f_ (bne_eq_false_iff_eq.2 h4),t_ h1,q_ (show ∀ k,k<1→(fun i=>[I ((mv a6 ((0-x)*a7) ak).1)]) k=[[I ((mv a6 ((0-x)*a7) ak).1)]].getD k []from by intro k hk;match k,hk with|0,_=>rfl|k+1,hk=>omega),q_ (re n),q_ (re 1),q_ h6,q_ (show ∀ k,k<1+n→(fun i=>[I (q i)]) k=if k<1 then(fun i=>[I ((mv a6 ((0-x)*a7) ak).1)]) k else(fun i=>[I (g i)]) (k-1)from fun k hk=>by
    have e0:=h5 k hk
    by_cases c:k<1
    ·rw[if_pos c]at e0⊢;simp only[e0]
    ·rw[if_neg c]at e0⊢;simp only[e0]),h_ [.row (fun i=>[I ((mv a6 ((0-x)*a7) ak).1)]), .row (fun i=>[I (q i)])]] ?_
     by_cases h7:x>0
     ·refine hX.go [n_ 5 (t_ (dt h7))] ?_
      by_cases h8:((mv a6 ((0-x)*a7) ak).1)≤a5
      ·refine hX.go [n_ 4 (t_ (dt h8)),t_ (dt h7),t_ (dt h8),t_ (dt h7),t_ rt] ?_
       by_cases h9:(((1+n):Nat):Int)>1202
       ·exact absurd h9 (by omega)
       ·have hN':N=k+1:=by rw[←hc];exact gk hz (by omega) (BT.2 (by rw[←hv];omega))
        exact(fin (1+n) q (by omega) (fun i hi=>by rw[hq i (by omega)];rw[gcE,if_pos h1,hN',show k+1-1-i=k-i by omega])).e [f_ (df h9)] [3]
      ·refine hX.go [n_ 4 (f_ (df h8)),t_ (dt h7),f_ (df h8),t_ (dt h7)] ?_
       by_cases h9:((mv a6 ((0-x)*a7) ak).1)≥a6
       ·refine hX.go [t_ (dt h9)] ?_
        by_cases h10:(((1+n):Nat):Int)>1202
        ·exact absurd h10 (by omega)
        ·have hN':N=k+1:=by rw[←hc];exact gk hz (by omega) (BT.2 (by rw[←hv];omega))
         exact(fin (1+n) q (by omega) (fun i hi=>by rw[hq i (by omega)];rw[gcE,if_pos h1,hN',show k+1-1-i=k-i by omega])).e [f_ (df h10)] [3]
       ·have h10:Ir (x+1):=by simp only[Ir,aj];omega
        exact hX.h 9 [f_ (df h9),q_ h10] [.ae 0, .ae 3] (show Ok X (bu (x+1) a1 a2 a3 a4 a5 a6 a7 a8 a9 ak ah (1+n) q)from ih (k+1) _ _ q (by omega) (by omega) (by omega) (by rw[←hc];exact(kp hz (.inr (fR.2 (by rw[←hv];omega)))).symm) (fun i hi=>by rw[hq i hi,if_pos h1,show k+1-1-i=k-i by omega]))
     ·have h8:Ir (x+1):=by simp only[Ir,aj];omega
      exact hX.h 21 [n_ 7 (f_ (df h7)),f_ rf,q_ h8] [.ae 0, .ae 3] (show Ok X (bu (x+1) a1 a2 a3 a4 a5 a6 a7 a8 a9 ak ah (1+n) q)from ih (k+1) _ _ q (by omega) (by omega) (by omega) (by rw[←hc];exact(kp hz (.inl (by omega))).symm) (fun i hi=>by rw[hq i hi,if_pos h1,show k+1-1-i=k-i by omega]))
    ·refine hX.go [t_ (bne_iff_ne.2 h4)] ?_
     by_cases h5:((n:Nat):Int)>1202
     ·exact absurd h5 (by omega)
     ·have hN':N=k:=by rw[←hc];exact sA (by rw[←hv];exact h4)
      exact(fin n g (by omega) (fun i hi=>by rw[hg i (by omega)];rw[gcE,if_pos h1,if_pos h1,hN'])).e [f_ (df h5)] [1]
   ·have hv:mv a5 (x*a7) ak=st k:=by rw[hst];unfold mw;rw[if_neg (by rw[h1];decide),hx]
    have h2:Ir (x*a7):=by simp only[Ir,aj];omega
    refine hX.go [f_ h1,q_ h2,c_ [] (G8 a5 (x*a7) ak)] ?_
    by_cases h3:((mv a5 (x*a7) ak).2)=0
    ·obtain⟨q,h4⟩: ∃ q:Nat→Int, ∀ k,k<(n+1)→q k=if k<n then(g k)else((mv a5 (x*a7) ak).1):=⟨_,fun k _=>rfl⟩
     have hz:(st k).2=0:=by rw[←hv];exact h3
     have hq: ∀ i,i<k+1→q i=(st (i)).1:=fun i hi=>by
      rw[h4 i (by omega)]
      by_cases c:i<n
      ·rw[if_pos c,hg i (by omega),if_neg (by rw[h1];decide)]
      ·rw[if_neg c,hv,show i=k by omega]
     have h5:(n+1)*8≤140737488355328:=by omega
     refine hX.go [f_ (bne_eq_false_iff_eq.2 h3),f_ h1,q_ (show ∀ k,k<1→(fun i=>[I ((mv a5 (x*a7) ak).1)]) k=[[I ((mv a5 (x*a7) ak).1)]].getD k []from by intro k hk;match k,hk with|0,_=>rfl|k+1,hk=>omega),q_ (re 1),q_ (re n),q_ h5,q_ (show ∀ k,k<n+1→(fun i=>[I (q i)]) k=if k<n then(fun i=>[I (g i)]) k else(fun i=>[I ((mv a5 (x*a7) ak).1)]) (k-n)from fun k hk=>by
    have e0:=h4 k hk
    by_cases c:k<n
    ·rw[if_pos c]at e0⊢;simp only[e0]
    ·rw[if_neg c]at e0⊢;simp only[e0]),h_ [.row (fun i=>[I ((mv a5 (x*a7) ak).1)]), .row (fun i=>[I (q i)])]] ?_
     by_cases h6:x>0
     ·refine hX.go [n_ 5 (t_ (dt h6))] ?_
      by_cases h7:((mv a5 (x*a7) ak).1)≤a5
      ·refine hX.go [n_ 4 (t_ (dt h7)),t_ (dt h6),t_ (dt h7),t_ (dt h6),t_ rt] ?_
       by_cases h8:(((n+1):Nat):Int)>1202
       ·exact absurd h8 (by omega)
       ·have hN':N=k+1:=by rw[←hc];exact gk hz (by omega) (BT.2 (by rw[←hv];omega))
        exact(fin (n+1) q (by omega) (fun i hi=>by rw[hq i (by omega)];rw[gcE,if_neg (by rw[h1];decide)])).e [f_ (df h8)] [3]
      ·refine hX.go [n_ 4 (f_ (df h7)),t_ (dt h6),f_ (df h7),t_ (dt h6)] ?_
       by_cases h8:((mv a5 (x*a7) ak).1)≥a6
       ·refine hX.go [t_ (dt h8)] ?_
        by_cases h9:(((n+1):Nat):Int)>1202
        ·exact absurd h9 (by omega)
        ·have hN':N=k+1:=by rw[←hc];exact gk hz (by omega) (BT.2 (by rw[←hv];omega))
         exact(fin (n+1) q (by omega) (fun i hi=>by rw[hq i (by omega)];rw[gcE,if_neg (by rw[h1];decide)])).e [f_ (df h9)] [3]
       ·have h9:Ir (x+1):=by simp only[Ir,aj];omega
        exact hX.h 9 [f_ (df h8),q_ h9] [.ae 0, .ae 3] (show Ok X (bu (x+1) a1 a2 a3 a4 a5 a6 a7 a8 a9 ak ah (n+1) q)from ih (k+1) _ _ q (by omega) (by omega) (by omega) (by rw[←hc];exact(kp hz (.inr (fR.2 (by rw[←hv];omega)))).symm) (fun i hi=>by rw[hq i hi,if_neg (by rw[h1];decide)]))
     ·have h7:Ir (x+1):=by simp only[Ir,aj];omega
      exact hX.h 21 [n_ 7 (f_ (df h6)),f_ rf,q_ h7] [.ae 0, .ae 3] (show Ok X (bu (x+1) a1 a2 a3 a4 a5 a6 a7 a8 a9 ak ah (n+1) q)from ih (k+1) _ _ q (by omega) (by omega) (by omega) (by rw[←hc];exact(kp hz (.inl (by omega))).symm) (fun i hi=>by rw[hq i hi,if_neg (by rw[h1];decide)]))
    ·refine hX.go [t_ (bne_iff_ne.2 h3)] ?_
     by_cases h4:((n:Nat):Int)>1202
     ·exact absurd h4 (by omega)
     ·have hN':N=k:=by rw[←hc];exact sA (by rw[←hv];exact h3)
      exact(fin n g (by omega) (fun i hi=>by rw[hg i (by omega)];rw[gcE,if_neg (by rw[h1];decide),if_neg (by rw[h1];decide)])).e [f_ (df h4)] [1]
  ·exact absurd h0 (by omega)
theorem G_ (a1 a2 a3 a4 a5 a6 a7:Int) (a8 a9 ak:Bool) (ah:Int) (hs:rQ a1 a2 a3 a4 a5 a6 a7 ah=0→a6-a5≤6200*a7):
  S 56 [.agg [I a1,I a2,I a3,I a4,I a5,I a6,I a7,B a8,B a9,B ak,I ah]] [] (.af [.sl 0 (Af a1 a2 a3 a4 a5 a6 a7 a8 ak ah),I (rQ a1 a2 a3 a4 a5 a6 a7 ah)]) [ro (Af a1 a2 a3 a4 a5 a6 a7 a8 ak ah) (oF a5 a6 a7 a8 ak)]:=by
 refine ab.st fun X hX=> ?_
 refine hX.go [c_ [] (DB a1 a2 a3 a4 a5 a6 a7 a8 a9 ak ah)] ?_
 by_cases h0:(rQ a1 a2 a3 a4 a5 a6 a7 ah)=0
 ·have hL:=oi h0
  have hN:=pg (back:=a8) (eom:=ak) hL (hs h0)
  rw[show Af a1 a2 a3 a4 a5 a6 a7 a8 ak ah=gN a5 a6 a7 a8 ak from if_pos h0,h0]at hX
  exact hX.h 13 [f_ (bne_eq_false_iff_eq.2 h0)] [.ae 0, .nil 1] (show Ok X (bu 0 a1 a2 a3 a4 a5 a6 a7 a8 a9 ak ah 0 (fun _=>default))from FM _ rfl _ rfl (by omega) ⟨hL.m1,hL.m2⟩ hX 1300 0 0 _ _ rfl rfl rfl rfl (fun i hi=>absurd hi (Nat.not_lt_zero _)))
 ·rw[show Af a1 a2 a3 a4 a5 a6 a7 a8 ak ah=0 from if_neg h0]at hX
  exact(av.Bp hX).e [t_ (bne_iff_ne.2 h0)]
end Go.Proofs.YtelidogcomffkaaGreatDoor
set_option linter.unusedVariables false
set_option linter.unusedSimpArgs false
set_option linter.unusedSectionVars false
namespace Go.Proofs.YtelidogcomffkaaGreatDoor
open Go Go.Sx
variable [dc]
def mN (s e mo:Int) (back eom:Bool):Nat:=if 2≤gN s e mo back eom then(if qy s e (mw s e mo back eom (gN s e mo back eom-1)).1=true then gN s e mo back eom-1 else gN s e mo back eom-2)else 0
def oN (s e mo:Int) (back eom:Bool):Nat:=if back=true then gN s e mo back eom-1-mN s e mo back eom else 1
variable {s e mo:Int} {back eom:Bool}
theorem rL (h:oj s e mo) (hs:e-s≤6200*mo):mN s e mo back eom+1≤gN s e mo back eom:=by
 have:=(pg (back:=back) (eom:=eom) h hs).1
 grind [mN]
theorem CW (h:oj s e mo) (hs:e-s≤6200*mo) {j:Nat} (hj:j<gN s e mo back eom):qy s e (mw s e mo back eom j).1=true↔1≤j∧j≤mN s e mo back eom:=by
 obtain⟨q1,q2,q3⟩:=Ht (back:=back) (eom:=eom) h hs
 have h0:=p9 (back:=back) (eom:=eom) h
 rcases Nat.eq_zero_or_pos j with rfl|hp
 ·rw[h0]
  constructor
  ·intro c
   have:=fR.1 c
   omega
  ·intro c;omega
 grind [mN]
theorem Hd (h:oj s e mo) (hs:e-s≤6200*mo):oN s e mo back eom+mN s e mo back eom≤gN s e mo back eom:=by
 grind [rL,oN]
theorem Ep (h:oj s e mo) (hs:e-s≤6200*mo) {i:Nat} (hi:i<gN s e mo back eom):qy s e (oF s e mo back eom i)=true↔oN s e mo back eom≤i∧i<oN s e mo back eom+mN s e mo back eom:=by
 have hm:=rL (back:=back) (eom:=eom) h hs
 unfold oF oN
 grind [CW]
def cB (o m j:Nat):Nat:=min j (o+m)-min j o
theorem v5 {o m j:Nat} (h:o≤j∧j<o+m):cB o m (j+1)=cB o m j+1∧o+cB o m j=j:=by unfold cB;omega
theorem iC {o m j:Nat} (h: ¬(o≤j∧j<o+m)):cB o m (j+1)=cB o m j:=by unfold cB;omega
theorem Ky (o m j:Nat):cB o m j≤m∧cB o m j≤j:=by unfold cB;omega
theorem Fa {o m j:Nat} (h:o+m≤j):cB o m j=m:=by unfold cB;omega
end Go.Proofs.YtelidogcomffkaaGreatDoor
set_option linter.unusedVariables false
set_option linter.unusedSimpArgs false
set_option linter.unusedSectionVars false
set_option maxRecDepth 100000
namespace Go.Proofs.YtelidogcomffkaaGreatDoor
open Go Go.Sx
variable [dc]
noncomputable def Am (x1:Int) (x2:Int) (x3:Int) (x4:Int) (x5:Int) (x6:Int) (x7:Int) (x8:Int) (x9:Int) (b10:Bool) (b11:Bool) (b12:Bool) (x13:Int) (n1_:Nat) (g1011:Nat→Int) (n2_:Nat) (g1021:Nat→Int):SC:=
 ⟨[⟨130,bJ 19 [(0, .sl 2 n2_),(1, .fn (.func 102) [] [.ptr 0 0]),(7,I x1),(8,I x2)],[.code (aa Tryz.f130 [1,0,1,0,0]), .inLoop (aa Tryz.f130 [1,0,1,0,0]), .inBlock 0, .code (aa Tryz.f130 [1,1])],{}⟩,⟨100,bJ 42 [(0, .sl 2 n2_),(1, .fn (.func 102) [] [.ptr 0 0]),(8, .sl 2 n2_),(9, .fn (.func 102) [] [.ptr 0 0])],[.inRegion (aU Tryz.f100 [1,0]) [2,3], .code (aa Tryz.f100 [1,1])],{}⟩,⟨75,bJ 62 [(1, .ptr 0 0),(4, .sl 1 n1_),(18, .sl 2 n2_),(19, .fn (.func 102) [] [.ptr 0 0])],[.inRegion (aU Tryz.f75 [1,1,1,0]) [3,4], .code (aa Tryz.f75 [1,1,1,1])],{}⟩],[some (.box true [I x3,I x4,I x5,I x6,I x7,I x8,I x9,B b10,B b11,B b12,I x13]),ro n1_ g1011,ro n2_ g1021]⟩
noncomputable def wX (x1:Int) (x2:Int) (x3:Int) (x4:Int) (x5:Int) (x6:Int) (x7:Int) (b8:Bool) (b9:Bool) (b10:Bool) (x11:Int) (n1_:Nat) (g1011:Nat→Int) (n2_:Nat) (g1021:Nat→Int):SC:=
 ⟨[⟨75,bJ 62 [(1, .ptr 0 0),(4, .sl 1 n1_),(6, .sl 2 n2_)],[.code (aa Tryz.f75 [1,1,1,1])],{}⟩],[some (.box true [I x1,I x2,I x3,I x4,I x5,I x6,I x7,B b8,B b9,B b10,I x11]),ro n1_ g1011,ro n2_ g1021]⟩
noncomputable def wW (x1:Int) (x2:Int) (x3:Int) (x4:Int) (x5:Int) (x6:Int) (x7:Int) (x8:Int) (x9:Int) (b10:Bool) (b11:Bool) (b12:Bool) (x13:Int) (n1_:Nat) (g1011:Nat→Int) (n2_:Nat) (g1021:Nat→Int):SC:=
 ⟨[⟨100,bJ 42 [(0, .sl 2 n2_),(1, .fn (.func 102) [] [.ptr 0 0]),(5,I x1),(6,I x2)],[.code (aa Tryz.f100 [1,1,1,0,1,0,0]), .inLoop (aa Tryz.f100 [1,1,1,0,1,0,0]), .inBlock 0, .code (aa Tryz.f100 [1,1,1,1])],{}⟩,⟨75,bJ 62 [(1, .ptr 0 0),(4, .sl 1 n1_),(18, .sl 2 n2_),(19, .fn (.func 102) [] [.ptr 0 0])],[.inRegion (aU Tryz.f75 [1,1,1,0]) [3,4], .code (aa Tryz.f75 [1,1,1,1])],{}⟩],[some (.box true [I x3,I x4,I x5,I x6,I x7,I x8,I x9,B b10,B b11,B b12,I x13]),ro n1_ g1011,ro n2_ g1021]⟩
theorem Cz {X:Cx} {a1 a2 a3 a4 a5 a6 a7:Int} {a8 a9 ak:Bool} {ah:Int} {N o m:Nat} {G:Nat→Int} {res:SV} {new:List (Option Vw)} (hX:av X Tryz.prog GL 75 [] res new) (hN:N≤1000) (hom:o+m≤N) (hmN:m+1≤N) (hbt: ∀ i,i<N→(qy a5 a6 (G i)=true↔o≤i∧i<o+m))
  (K: ∀ (n:Nat) (g:Nat→Int),n=m→(∀ i,i<m→g i=G (o+i))→Ok X (wX a1 a2 a3 a4 a5 a6 a7 a8 a9 ak ah N G n g)):
  ∀ (f j:Nat) (x y:Int) (c:Nat→Int),x=(cB o m j:Int)→y=(j:Int)→N=j+f→cB o m j+1≤j→(∀ k,k<cB o m j→c k=G (o+k))→(∀ k,j≤k→k<N→c k=G k)→
    Ok X (wW x y a1 a2 a3 a4 a5 a6 a7 a8 a9 ak ah N G N c):=by
 intro f
 induction f with
 |zero=>
  intro j x y c hx hy hf hj1 hc1 hc2
  have h0: ¬y<((N:Nat):Int):=by omega
  have hall:=Fa (o:=o) (m:=m) (j:=j) (by omega)
  have h1:(0:Int)≤x∧x<((N:Nat):Int):=by omega
  refine hX.s 14 [f_ (df h0)] ?_
  refine hX.LO [q_ (re N),q_ h1] ?_
  have h2:(0:Int)≤x∧x≤((x.toNat:Nat):Int):=by omega
  refine hX.h 11 [q_ h2,q_ (re N),h_ [.cut]] [.ae 0, .ae 1, .ae 3] (show Ok X (wX a1 a2 a3 a4 a5 a6 a7 a8 a9 ak ah N G x.toNat c)from K x.toNat c (by omega) (fun i hi=>hc1 i (by omega)))
 |succ f ih=>
  intro j x y c hx hy hf hj1 hc1 hc2
  have h0:y<((N:Nat):Int):=by omega
  have h1:(0:Int)≤y∧y<((N:Nat):Int):=by omega
  refine hX.go [t_ (dt h0),q_ h1,q_ (re N),q_ h1,i_,c_ [] (Ji a1 a2 a3 a4 a5 a6 a7 a8 a9 ak ah (c y.toNat))] ?_
  have e2:y.toNat=j:=by omega
  have hv:=hbt j (by omega)
  have ecj:c y.toNat=G j:=by rw[e2];exact hc2 j (Nat.le_refl _) (by omega)
  have hj1':cB o m (j+1)+1≤j+1:=by have:=v5 (o:=o) (m:=m) (j:=j);have:=iC (o:=o) (m:=m) (j:=j);omega
  rcases aq (qy a5 a6 (c y.toNat))with h2|h2
  ·have hin:=hv.1 (by rw[←ecj];exact h2)
   obtain⟨hcb,ho⟩:=v5 hin
   have h3:(0:Int)≤x∧x<((N:Nat):Int):=by omega
   obtain⟨q,h4⟩: ∃ q:Nat→Int, ∀ k,k<N→q k=if k=x.toNat then(c y.toNat)else(c k):=⟨_,fun k _=>rfl⟩
   have h5:Ir (x+1):=by simp only[Ir,aj];omega
   have h6:Ir (y+1):=by simp only[Ir,aj];omega
   refine hX.h 21 [t_ (Go.Sx.Bo (nf h2)),q_ h3,q_ (re N),q_ h3,q_ (show ∀ k,k<N→(fun i=>[I (q i)]) k=if k=x.toNat then fa ((fun i=>[I (c i)]) k) 0 [I (c y.toNat)]else(fun i=>[I (c i)]) k from fun k hk=>by
   have e0:=h4 k hk
   by_cases c:k=x.toNat
   ·rw[if_pos c]at e0⊢;simp only[e0];try rfl
   ·rw[if_neg c]at e0⊢;simp only[e0]),q_ h5,q_ h6,h_ [.row (fun i=>[I (q i)])]] (aA 3) (show Ok X (wW (x+1) (y+1) a1 a2 a3 a4 a5 a6 a7 a8 a9 ak ah N G N q)from ih (j+1) _ _ q (by omega) (by omega) (by omega) hj1' ?_ ?_)
   ·intro k hk
    rw[h4 k (by omega)]
    by_cases d:k=x.toNat
    ·simp_all
    grind
   grind
  ·have hout: ¬(o≤j∧j<o+m):=fun z=>by rw[ecj]at h2;rw[hv.2 z]at h2;cases h2
   have hcb:=iC hout
   have h3:Ir (y+1):=by simp only[Ir,aj];omega
   refine hX.h 9 [f_ (Go.Sx.tu (nt h2)),q_ h3] (aA 3) (show Ok X (wW x (y+1) a1 a2 a3 a4 a5 a6 a7 a8 a9 ak ah N G N c)from ih (j+1) _ _ c (by omega) (by omega) (by omega) hj1' (fun k hk=>hc1 k (by omega)) (fun k hk hk2=>hc2 k (by omega) hk2))
theorem CA {X:Cx} {a1 a2 a3 a4 a5 a6 a7:Int} {a8 a9 ak:Bool} {ah:Int} {N o m:Nat} {G:Nat→Int} {res:SV} {new:List (Option Vw)} (hX:av X Tryz.prog GL 75 [] res new) (hN:N≤1000) (hom:o+m≤N) (hmN:m+1≤N) (hbt: ∀ i,i<N→(qy a5 a6 (G i)=true↔o≤i∧i<o+m))
  (K: ∀ (n:Nat) (g:Nat→Int),n=m→(∀ i,i<m→g i=G (o+i))→Ok X (wX a1 a2 a3 a4 a5 a6 a7 a8 a9 ak ah N G n g)):
  ∀ (f j:Nat) (x y:Int),x=(N:Int)→y=(j:Int)→N=j+f→(∀ k,k<j→o≤k∧k<o+m)→
    Ok X (Am x y a1 a2 a3 a4 a5 a6 a7 a8 a9 ak ah N G N G):=by
 intro f
 induction f with
 |zero=>
  intro j x y hx hy hf hall
  exfalso
  have h6:=hall 0 (by omega)
  grind
 |succ f ih=>
  intro j x y hx hy hf hall
  have h0:y<x:=by omega
  have h1:(0:Int)≤y∧y<((N:Nat):Int):=by omega
  refine hX.go [t_ (dt h0),q_ h1,q_ (re N),q_ h1,i_,c_ [] (Ji a1 a2 a3 a4 a5 a6 a7 a8 a9 ak ah (G y.toNat))] ?_
  have e2:y.toNat=j:=by omega
  have hv:=hbt j (by omega)
  rcases aq (qy a5 a6 (G y.toNat))with h2|h2
  ·have h3:Ir (y+1):=by simp only[Ir,aj];omega
   refine hX.h 8 [f_ (nf h2),q_ h3] (aA 3) (show Ok X (Am x (y+1) a1 a2 a3 a4 a5 a6 a7 a8 a9 ak ah N G N G)from ih (j+1) _ _ hx (by omega) (by omega) (fun k hk=> ?_))
   by_cases d:k<j
   all_goals grind
  ·refine hX.go [t_ (nt h2)] ?_
   have hout: ¬(o≤j∧j<o+m):=fun z=>by rw[e2]at h2;rw[hv.2 z]at h2;cases h2
   by_cases h3:y=(-1)
   ·exact absurd h3 (by omega)
   ·have h4:Ir (y+1):=by simp only[Ir,aj];omega
    have hcj:cB o m (j+1)=j∧(∀ k,k<j→o+k=k):=by
     have h5:=iC hout
     rcases Nat.eq_zero_or_pos j with rfl|hp
     ·grind [cB]
     ·have h6:=hall 0 hp
      have h7:=hall (j-1) (by omega)
      exact⟨by rw[h5];unfold cB;omega,fun k hk=>by omega⟩
    exact hX.h 11 [f_ (beq_eq_false_iff_ne.2 h3),q_ h4] (aA 3) (show Ok X (wW y (y+1) a1 a2 a3 a4 a5 a6 a7 a8 a9 ak ah N G N G)from Cz hX hN hom hmN hbt K f (j+1) _ _ G (by rw[hcj.1];exact hy) (by omega) (by omega) (by rw[hcj.1];exact Nat.le_refl _) (fun k hk=>by rw[hcj.2 k (by omega)]) (fun k _ _=>rfl))
def dM (s e mo:Int) (long back eom:Bool):Nat:=if long=true∧hasB (oF s e mo back eom) (if back=true then s else e) (gN s e mo back eom)=false then mN s e mo back eom-1 else mN s e mo back eom
def dO (s e mo:Int) (long back eom:Bool):Nat:=if back=true then gN s e mo back eom-1-dM s e mo long back eom else 1
def dV (s e mo:Int) (long back eom:Bool):Nat→Int:=fZ s (fun i=>oF s e mo back eom (dO s e mo long back eom+i)) (dM s e mo long back eom) e
def dN (a1 a2 a3 a4 a5 a6 a7:Int) (a8 a9 ak:Bool) (ah:Int):Nat:=if rQ a1 a2 a3 a4 a5 a6 a7 ah=0 then dM a5 a6 a7 a9 a8 ak+2 else 0
theorem Jf {X:Cx} {a1 a2 a3 a4 a5 a6 a7:Int} {a8 a9 ak:Bool} {ah:Int} {m:Nat} {g:Nat→Int} (hL:oj a5 a6 a7) (hs:a6-a5≤6200*a7)
  (hX:av X Tryz.prog GL 75 [] (.af [.sl 0 (dM a5 a6 a7 a9 a8 ak+2),I 0]) [ro (dM a5 a6 a7 a9 a8 ak+2) (dV a5 a6 a7 a9 a8 ak)]) (hm:m=mN a5 a6 a7 a8 ak)
  (hg: ∀ i,i<m→g i=oF a5 a6 a7 a8 ak (oN a5 a6 a7 a8 ak+i)):Ok X (wX a1 a2 a3 a4 a5 a6 a7 a8 a9 ak ah (gN a5 a6 a7 a8 ak) (oF a5 a6 a7 a8 ak) m g):=by
 have hN:=pg (back:=a8) (eom:=ak) hL hs
 have hmN:=rL (back:=a8) (eom:=ak) hL hs
 have fin: ∀ (k:Nat) (h:Nat→Int),k=dM a5 a6 a7 a9 a8 ak→(∀ i,i<k→h i=oF a5 a6 a7 a8 ak (dO a5 a6 a7 a9 a8 ak+i))→av X Tryz.prog GL 75 [] (.af [.sl 0 (k+2),I 0]) [ro (k+2) (fZ a5 h k a6)]:=fun k h hk hh=>by
  subst hk
  refine av.same hX ⟨⟨rfl,rfl,rfl,rfl,fun i hi=> ?_⟩,trivial⟩
  show[I (fZ a5 h _ a6 i)]=[I (dV a5 a6 a7 a9 a8 ak i)]
  unfold dV fZ
  grind
 rcases aq a8 with h0|h0
 ·have hF:(if a8=true then a5 else a6)=a5:=if_pos h0
  have e1:dO a5 a6 a7 a9 a8 ak=gN a5 a6 a7 a8 ak-1-dM a5 a6 a7 a9 a8 ak:=if_pos h0
  have e2:oN a5 a6 a7 a8 ak=gN a5 a6 a7 a8 ak-1-mN a5 a6 a7 a8 ak:=if_pos h0
  refine hX.go [t_ h0] ?_
  rcases aq a9 with h1|h1
  ·refine hX.go [n_ 4 (t_ h1)] ?_
   by_cases h2:((m:Nat):Int)>0
   ·have h3:(gN a5 a6 a7 a8 ak)≤10000:=by omega
    refine hX.go [n_ 3 (t_ (dt h2)),c_ [1] (show S 104 [.sl 0 (gN a5 a6 a7 a8 ak),I a5] [ri (gN a5 a6 a7 a8 ak) (oF a5 a6 a7 a8 ak)] (B (hasB (oF a5 a6 a7 a8 ak) a5 (gN a5 a6 a7 a8 ak))) []from JR h3),t_ (dt h2),t_ (dt h2)] ?_
    rcases aq (hasB (oF a5 a6 a7 a8 ak) a5 (gN a5 a6 a7 a8 ak))with h4|h4
    ·have h5:m≤10000:=by omega
     refine hX.go [f_ (nf h4),q_ (show ∀ k,k<1→(fun i=>[I a5]) k=[[I a5]].getD k []from by intro k hk;match k,hk with|0,_=>rfl|k+1,hk=>omega),q_ (show ∀ k,k<1→(fun i=>[I a6]) k=[[I a6]].getD k []from by intro k hk;match k,hk with|0,_=>rfl|k+1,hk=>omega),q_ (show ∀ k,k<3→(a_ [[.sl 3 1],[.sl 2 m],[.sl 4 1]]) k=[[.sl 3 1],[.sl 2 m],[.sl 4 1]].getD k []from by intro k hk;match k,hk with|0,_=>rfl|1,_=>rfl|2,_=>rfl|k+3,hk=>omega),h_ [.row (fun i=>[I a5]), .row (fun i=>[I a6]), .row (a_ [[.sl 3 1],[.sl 2 m],[.sl 4 1]])],c_ [5,3,2,4] (show S 105 [.sl 0 3] [some (.row false 26 3 1 (fun i=>dU (inv [5,3,2,4]) (a_ [[.sl 3 1],[.sl 2 m],[.sl 4 1]] i))),some (.row false 3 1 1 (fun i=>[I a5])),ri m g,some (.row false 3 1 1 (fun i=>[I a6]))] (.sl 4 (m+2)) [some (.row true 3 (m+2) 1 (fun i=>[I (fZ a5 (fun i=>(g i)) m a6 i)]))]from ry _ h5 (fun i hi=>by match i,hi with|0,_=>rfl|1,_=>rfl|2,_=>rfl|i+3,hi=>omega))] ?_
     by_cases h6:(((m+2):Nat):Int)>1201
     ·exact absurd h6 (by omega)
     ·exact(fin (m) (fun i=>(g i)) (by
       have e3:dM a5 a6 a7 a9 a8 ak=mN a5 a6 a7 a8 ak:=(by unfold dM;rw[hF];rw[if_neg (fun z=>by rw[h4]at z;cases z.2)])
       omega) (fun i hi=>by
       have e3:dM a5 a6 a7 a9 a8 ak=mN a5 a6 a7 a8 ak:=(by unfold dM;rw[hF];rw[if_neg (fun z=>by rw[h4]at z;cases z.2)])
       rw[hg _ (by omega)];congr 1;omega)).e [f_ (df h6)] [6]
    ·have h5:(0:Int)≤1∧(1:Int)≤((m:Nat):Int):=by omega
     have h6:((((m:Nat):Int).toNat)-1)≤10000:=by omega
     refine hX.go [t_ (nt h4),t_ h0,q_ (re m),q_ (show(0:Int)≤((m:Nat):Int)∧((m:Nat):Int)≤((m:Nat):Int)from by first|decide|omega|(constructor<;>omega)),q_ h5,q_ (show ∀ k,k<1→(fun i=>[I a5]) k=[[I a5]].getD k []from by intro k hk;match k,hk with|0,_=>rfl|k+1,hk=>omega),q_ (show ∀ k,k<1→(fun i=>[I a6]) k=[[I a6]].getD k []from by intro k hk;match k,hk with|0,_=>rfl|k+1,hk=>omega),q_ (show ∀ k,k<3→(a_ [[.sl 4 1],[.sl 3 ((((m:Nat):Int).toNat)-1)],[.sl 5 1]]) k=[[.sl 4 1],[.sl 3 ((((m:Nat):Int).toNat)-1)],[.sl 5 1]].getD k []from by intro k hk;match k,hk with|0,_=>rfl|1,_=>rfl|2,_=>rfl|k+3,hk=>omega),h_ [.row (fun i=>[I a5]), .row (fun i=>[I a6]), .row (a_ [[.sl 4 1],[.sl 3 ((((m:Nat):Int).toNat)-1)],[.sl 5 1]])],c_ [6,4,3,5] (show S 105 [.sl 0 3] [some (.row false 26 3 1 (fun i=>dU (inv [6,4,3,5]) (a_ [[.sl 4 1],[.sl 3 ((((m:Nat):Int).toNat)-1)],[.sl 5 1]] i))),some (.row false 3 1 1 (fun i=>[I a5])),some (.row false 3 ((((m:Nat):Int).toNat)-1) 1 (fun i=>[I (g (i+1))])),some (.row false 3 1 1 (fun i=>[I a6]))] (.sl 4 (((((m:Nat):Int).toNat)-1)+2)) [some (.row true 3 (((((m:Nat):Int).toNat)-1)+2) 1 (fun i=>[I (fZ a5 (fun i=>(g (i+1))) ((((m:Nat):Int).toNat)-1) a6 i)]))]from ry _ h6 (fun i hi=>by match i,hi with|0,_=>rfl|1,_=>rfl|2,_=>rfl|i+3,hi=>omega))] ?_
     by_cases h7:(((((((m:Nat):Int).toNat)-1)+2):Nat):Int)>1201
     ·exact absurd h7 (by omega)
     ·exact(fin (((((m:Nat):Int).toNat)-1)) (fun i=>(g (i+1))) (by
       have e3:dM a5 a6 a7 a9 a8 ak=mN a5 a6 a7 a8 ak-1:=(by unfold dM;rw[hF];rw[if_pos ⟨h1,h4⟩])
       omega) (fun i hi=>by
       have e3:dM a5 a6 a7 a9 a8 ak=mN a5 a6 a7 a8 ak-1:=(by unfold dM;rw[hF];rw[if_pos ⟨h1,h4⟩])
       rw[hg _ (by omega)];congr 1;omega)).e [f_ (df h7)] [7]
   ·have h3:m≤10000:=by omega
    refine hX.go [n_ 5 (f_ (df h2)),f_ rf,q_ (show ∀ k,k<1→(fun i=>[I a5]) k=[[I a5]].getD k []from by intro k hk;match k,hk with|0,_=>rfl|k+1,hk=>omega),q_ (show ∀ k,k<1→(fun i=>[I a6]) k=[[I a6]].getD k []from by intro k hk;match k,hk with|0,_=>rfl|k+1,hk=>omega),q_ (show ∀ k,k<3→(a_ [[.sl 3 1],[.sl 2 m],[.sl 4 1]]) k=[[.sl 3 1],[.sl 2 m],[.sl 4 1]].getD k []from by intro k hk;match k,hk with|0,_=>rfl|1,_=>rfl|2,_=>rfl|k+3,hk=>omega),h_ [.row (fun i=>[I a5]), .row (fun i=>[I a6]), .row (a_ [[.sl 3 1],[.sl 2 m],[.sl 4 1]])],c_ [5,3,2,4] (show S 105 [.sl 0 3] [some (.row false 26 3 1 (fun i=>dU (inv [5,3,2,4]) (a_ [[.sl 3 1],[.sl 2 m],[.sl 4 1]] i))),some (.row false 3 1 1 (fun i=>[I a5])),ri m g,some (.row false 3 1 1 (fun i=>[I a6]))] (.sl 4 (m+2)) [some (.row true 3 (m+2) 1 (fun i=>[I (fZ a5 (fun i=>(g i)) m a6 i)]))]from ry _ h3 (fun i hi=>by match i,hi with|0,_=>rfl|1,_=>rfl|2,_=>rfl|i+3,hi=>omega))] ?_
    by_cases h4:(((m+2):Nat):Int)>1201
    ·exact absurd h4 (by omega)
    ·exact(fin (m) (fun i=>(g i)) (by
       have e3:dM a5 a6 a7 a9 a8 ak=0:=(by unfold dM;rw[hF];split<;>omega)
       omega) (fun i hi=>by
       have e3:dM a5 a6 a7 a9 a8 ak=0:=(by unfold dM;rw[hF];split<;>omega)
       rw[hg _ (by omega)];congr 1;omega)).e [f_ (df h4)] [6]
  ·have h2:m≤10000:=by omega
   refine hX.go [n_ 4 (f_ h1),n_ 6 (f_ rf),q_ (show ∀ k,k<1→(fun i=>[I a5]) k=[[I a5]].getD k []from by intro k hk;match k,hk with|0,_=>rfl|k+1,hk=>omega),q_ (show ∀ k,k<1→(fun i=>[I a6]) k=[[I a6]].getD k []from by intro k hk;match k,hk with|0,_=>rfl|k+1,hk=>omega),q_ (show ∀ k,k<3→(a_ [[.sl 3 1],[.sl 2 m],[.sl 4 1]]) k=[[.sl 3 1],[.sl 2 m],[.sl 4 1]].getD k []from by intro k hk;match k,hk with|0,_=>rfl|1,_=>rfl|2,_=>rfl|k+3,hk=>omega),h_ [.row (fun i=>[I a5]), .row (fun i=>[I a6]), .row (a_ [[.sl 3 1],[.sl 2 m],[.sl 4 1]])],c_ [5,3,2,4] (show S 105 [.sl 0 3] [some (.row false 26 3 1 (fun i=>dU (inv [5,3,2,4]) (a_ [[.sl 3 1],[.sl 2 m],[.sl 4 1]] i))),some (.row false 3 1 1 (fun i=>[I a5])),ri m g,some (.row false 3 1 1 (fun i=>[I a6]))] (.sl 4 (m+2)) [some (.row true 3 (m+2) 1 (fun i=>[I (fZ a5 (fun i=>(g i)) m a6 i)]))]from ry _ h2 (fun i hi=>by match i,hi with|0,_=>rfl|1,_=>rfl|2,_=>rfl|i+3,hi=>omega))] ?_
   by_cases h3:(((m+2):Nat):Int)>1201
   ·exact absurd h3 (by omega)
   ·exact(fin (m) (fun i=>(g i)) (by
         have e3:dM a5 a6 a7 a9 a8 ak=mN a5 a6 a7 a8 ak:=(by unfold dM;rw[hF];rw[if_neg (fun z=>by rw[h1]at z;cases z.1)])
         omega) (fun i hi=>by
         have e3:dM a5 a6 a7 a9 a8 ak=mN a5 a6 a7 a8 ak:=(by unfold dM;rw[hF];rw[if_neg (fun z=>by rw[h1]at z;cases z.1)])
         rw[hg _ (by omega)];congr 1;omega)).e [f_ (df h3)] [6]
 ·have hF:(if a8=true then a5 else a6)=a6:=if_neg (by rw[h0];decide)
  have e1:dO a5 a6 a7 a9 a8 ak=1:=if_neg (by rw[h0];decide)
  have e2:oN a5 a6 a7 a8 ak=1:=if_neg (by rw[h0];decide)
  refine hX.go [f_ h0] ?_
  rcases aq a9 with h1|h1
  ·refine hX.go [n_ 4 (t_ h1)] ?_
   by_cases h2:((m:Nat):Int)>0
   ·have h3:(gN a5 a6 a7 a8 ak)≤10000:=by omega
    refine hX.go [n_ 3 (t_ (dt h2)),c_ [1] (show S 104 [.sl 0 (gN a5 a6 a7 a8 ak),I a6] [ri (gN a5 a6 a7 a8 ak) (oF a5 a6 a7 a8 ak)] (B (hasB (oF a5 a6 a7 a8 ak) a6 (gN a5 a6 a7 a8 ak))) []from JR h3),t_ (dt h2),t_ (dt h2)] ?_
    rcases aq (hasB (oF a5 a6 a7 a8 ak) a6 (gN a5 a6 a7 a8 ak))with h4|h4
    ·have h5:m≤10000:=by omega
     refine hX.go [f_ (nf h4),q_ (show ∀ k,k<1→(fun i=>[I a5]) k=[[I a5]].getD k []from by intro k hk;match k,hk with|0,_=>rfl|k+1,hk=>omega),q_ (show ∀ k,k<1→(fun i=>[I a6]) k=[[I a6]].getD k []from by intro k hk;match k,hk with|0,_=>rfl|k+1,hk=>omega),q_ (show ∀ k,k<3→(a_ [[.sl 3 1],[.sl 2 m],[.sl 4 1]]) k=[[.sl 3 1],[.sl 2 m],[.sl 4 1]].getD k []from by intro k hk;match k,hk with|0,_=>rfl|1,_=>rfl|2,_=>rfl|k+3,hk=>omega),h_ [.row (fun i=>[I a5]), .row (fun i=>[I a6]), .row (a_ [[.sl 3 1],[.sl 2 m],[.sl 4 1]])],c_ [5,3,2,4] (show S 105 [.sl 0 3] [some (.row false 26 3 1 (fun i=>dU (inv [5,3,2,4]) (a_ [[.sl 3 1],[.sl 2 m],[.sl 4 1]] i))),some (.row false 3 1 1 (fun i=>[I a5])),ri m g,some (.row false 3 1 1 (fun i=>[I a6]))] (.sl 4 (m+2)) [some (.row true 3 (m+2) 1 (fun i=>[I (fZ a5 (fun i=>(g i)) m a6 i)]))]from ry _ h5 (fun i hi=>by match i,hi with|0,_=>rfl|1,_=>rfl|2,_=>rfl|i+3,hi=>omega))] ?_
     by_cases h6:(((m+2):Nat):Int)>1201
     ·exact absurd h6 (by omega)
     ·exact(fin (m) (fun i=>(g i)) (by
       have e3:dM a5 a6 a7 a9 a8 ak=mN a5 a6 a7 a8 ak:=(by unfold dM;rw[hF];rw[if_neg (fun z=>by rw[h4]at z;cases z.2)])
       omega) (fun i hi=>by
       have e3:dM a5 a6 a7 a9 a8 ak=mN a5 a6 a7 a8 ak:=(by unfold dM;rw[hF];rw[if_neg (fun z=>by rw[h4]at z;cases z.2)])
       rw[hg _ (by omega)];congr 1;omega)).e [f_ (df h6)] [6]
    ·have h5:Ir (((m:Nat):Int)-1):=by simp only[Ir,aj];omega
     have h6:(0:Int)≤(((m:Nat):Int)-1)∧(((m:Nat):Int)-1)≤((m:Nat):Int):=by omega
     have h7:(0:Int)≤0∧(0:Int)≤(((m:Nat):Int)-1):=by omega
     have h8:(((((m:Nat):Int)-1).toNat)-0)≤10000:=by omega
     refine hX.go [t_ (nt h4),f_ h0,q_ h5,q_ (re m),q_ h6,q_ h7,q_ (show ∀ k,k<1→(fun i=>[I a5]) k=[[I a5]].getD k []from by intro k hk;match k,hk with|0,_=>rfl|k+1,hk=>omega),q_ (show ∀ k,k<1→(fun i=>[I a6]) k=[[I a6]].getD k []from by intro k hk;match k,hk with|0,_=>rfl|k+1,hk=>omega),q_ (show ∀ k,k<3→(a_ [[.sl 4 1],[.sl 3 (((((m:Nat):Int)-1).toNat)-0)],[.sl 5 1]]) k=[[.sl 4 1],[.sl 3 (((((m:Nat):Int)-1).toNat)-0)],[.sl 5 1]].getD k []from by intro k hk;match k,hk with|0,_=>rfl|1,_=>rfl|2,_=>rfl|k+3,hk=>omega),h_ [.row (fun i=>[I a5]), .row (fun i=>[I a6]), .row (a_ [[.sl 4 1],[.sl 3 (((((m:Nat):Int)-1).toNat)-0)],[.sl 5 1]])],c_ [6,4,3,5] (show S 105 [.sl 0 3] [some (.row false 26 3 1 (fun i=>dU (inv [6,4,3,5]) (a_ [[.sl 4 1],[.sl 3 (((((m:Nat):Int)-1).toNat)-0)],[.sl 5 1]] i))),some (.row false 3 1 1 (fun i=>[I a5])),some (.row false 3 (((((m:Nat):Int)-1).toNat)-0) 1 (fun i=>[I (g (i+0))])),some (.row false 3 1 1 (fun i=>[I a6]))] (.sl 4 ((((((m:Nat):Int)-1).toNat)-0)+2)) [some (.row true 3 ((((((m:Nat):Int)-1).toNat)-0)+2) 1 (fun i=>[I (fZ a5 (fun i=>(g (i+0))) (((((m:Nat):Int)-1).toNat)-0) a6 i)]))]from ry _ h8 (fun i hi=>by match i,hi with|0,_=>rfl|1,_=>rfl|2,_=>rfl|i+3,hi=>omega))] ?_
     by_cases h9:((((((((m:Nat):Int)-1).toNat)-0)+2):Nat):Int)>1201
     ·exact absurd h9 (by omega)
     ·exact(fin ((((((m:Nat):Int)-1).toNat)-0)) (fun i=>(g (i+0))) (by
       have e3:dM a5 a6 a7 a9 a8 ak=mN a5 a6 a7 a8 ak-1:=(by unfold dM;rw[hF];rw[if_pos ⟨h1,h4⟩])
       omega) (fun i hi=>by
       have e3:dM a5 a6 a7 a9 a8 ak=mN a5 a6 a7 a8 ak-1:=(by unfold dM;rw[hF];rw[if_pos ⟨h1,h4⟩])
       rw[hg _ (by omega)];congr 1;omega)).e [f_ (df h9)] [7]
   ·have h3:m≤10000:=by omega
    refine hX.go [n_ 5 (f_ (df h2)),f_ rf,q_ (show ∀ k,k<1→(fun i=>[I a5]) k=[[I a5]].getD k []from by intro k hk;match k,hk with|0,_=>rfl|k+1,hk=>omega),q_ (show ∀ k,k<1→(fun i=>[I a6]) k=[[I a6]].getD k []from by intro k hk;match k,hk with|0,_=>rfl|k+1,hk=>omega),q_ (show ∀ k,k<3→(a_ [[.sl 3 1],[.sl 2 m],[.sl 4 1]]) k=[[.sl 3 1],[.sl 2 m],[.sl 4 1]].getD k []from by intro k hk;match k,hk with|0,_=>rfl|1,_=>rfl|2,_=>rfl|k+3,hk=>omega),h_ [.row (fun i=>[I a5]), .row (fun i=>[I a6]), .row (a_ [[.sl 3 1],[.sl 2 m],[.sl 4 1]])],c_ [5,3,2,4] (show S 105 [.sl 0 3] [some (.row false 26 3 1 (fun i=>dU (inv [5,3,2,4]) (a_ [[.sl 3 1],[.sl 2 m],[.sl 4 1]] i))),some (.row false 3 1 1 (fun i=>[I a5])),ri m g,some (.row false 3 1 1 (fun i=>[I a6]))] (.sl 4 (m+2)) [some (.row true 3 (m+2) 1 (fun i=>[I (fZ a5 (fun i=>(g i)) m a6 i)]))]from ry _ h3 (fun i hi=>by match i,hi with|0,_=>rfl|1,_=>rfl|2,_=>rfl|i+3,hi=>omega))] ?_
    by_cases h4:(((m+2):Nat):Int)>1201
    ·exact absurd h4 (by omega)
    ·exact(fin (m) (fun i=>(g i)) (by
       have e3:dM a5 a6 a7 a9 a8 ak=0:=(by unfold dM;rw[hF];split<;>omega)
       omega) (fun i hi=>by
       have e3:dM a5 a6 a7 a9 a8 ak=0:=(by unfold dM;rw[hF];split<;>omega)
       rw[hg _ (by omega)];congr 1;omega)).e [f_ (df h4)] [6]
  ·have h2:m≤10000:=by omega
   refine hX.go [n_ 4 (f_ h1),n_ 6 (f_ rf),q_ (show ∀ k,k<1→(fun i=>[I a5]) k=[[I a5]].getD k []from by intro k hk;match k,hk with|0,_=>rfl|k+1,hk=>omega),q_ (show ∀ k,k<1→(fun i=>[I a6]) k=[[I a6]].getD k []from by intro k hk;match k,hk with|0,_=>rfl|k+1,hk=>omega),q_ (show ∀ k,k<3→(a_ [[.sl 3 1],[.sl 2 m],[.sl 4 1]]) k=[[.sl 3 1],[.sl 2 m],[.sl 4 1]].getD k []from by intro k hk;match k,hk with|0,_=>rfl|1,_=>rfl|2,_=>rfl|k+3,hk=>omega),h_ [.row (fun i=>[I a5]), .row (fun i=>[I a6]), .row (a_ [[.sl 3 1],[.sl 2 m],[.sl 4 1]])],c_ [5,3,2,4] (show S 105 [.sl 0 3] [some (.row false 26 3 1 (fun i=>dU (inv [5,3,2,4]) (a_ [[.sl 3 1],[.sl 2 m],[.sl 4 1]] i))),some (.row false 3 1 1 (fun i=>[I a5])),ri m g,some (.row false 3 1 1 (fun i=>[I a6]))] (.sl 4 (m+2)) [some (.row true 3 (m+2) 1 (fun i=>[I (fZ a5 (fun i=>(g i)) m a6 i)]))]from ry _ h2 (fun i hi=>by match i,hi with|0,_=>rfl|1,_=>rfl|2,_=>rfl|i+3,hi=>omega))] ?_
   by_cases h3:(((m+2):Nat):Int)>1201
   ·exact absurd h3 (by omega)
   ·exact(fin (m) (fun i=>(g i)) (by
         have e3:dM a5 a6 a7 a9 a8 ak=mN a5 a6 a7 a8 ak:=(by unfold dM;rw[hF];rw[if_neg (fun z=>by rw[h1]at z;cases z.1)])
         omega) (fun i hi=>by
         have e3:dM a5 a6 a7 a9 a8 ak=mN a5 a6 a7 a8 ak:=(by unfold dM;rw[hF];rw[if_neg (fun z=>by rw[h1]at z;cases z.1)])
         rw[hg _ (by omega)];congr 1;omega)).e [f_ (df h3)] [6]
theorem MP (a1 a2 a3 a4 a5 a6 a7:Int) (a8 a9 ak:Bool) (ah:Int) (hs:rQ a1 a2 a3 a4 a5 a6 a7 ah=0→a6-a5≤6200*a7):
  S 75 [.agg [I a1,I a2,I a3,I a4,I a5,I a6,I a7,B a8,B a9,B ak,I ah]] [] (.af [.sl 0 (dN a1 a2 a3 a4 a5 a6 a7 a8 a9 ak ah),I (rQ a1 a2 a3 a4 a5 a6 a7 ah)]) [ro (dN a1 a2 a3 a4 a5 a6 a7 a8 a9 ak ah) (dV a5 a6 a7 a9 a8 ak)]:=by
 refine ab.st fun X hX=> ?_
 have hGr:=Hy a1 a2 a3 a4 a5 a6 a7 a8 a9 ak ah hs
 by_cases h0:(rQ a1 a2 a3 a4 a5 a6 a7 ah)=0
 ·have hL:=oi h0
  have hN:=pg (back:=a8) (eom:=ak) hL (hs h0)
  rw[show Af a1 a2 a3 a4 a5 a6 a7 a8 ak ah=gN a5 a6 a7 a8 ak from if_pos h0,h0]at hGr
  rw[show dN a1 a2 a3 a4 a5 a6 a7 a8 a9 ak ah=dM a5 a6 a7 a9 a8 ak+2 from if_pos h0,h0]at hX
  refine hX.go [c_ [] hGr] ?_
  exact hX.h 30 [f_ rf,c_ [1] (H3 (g:=oF a5 a6 a7 a8 ak) (n:=gN a5 a6 a7 a8 ak) (by omega) (by omega)),i_,i_] (aA 3) (show Ok X (Am ((gN a5 a6 a7 a8 ak:Nat):Int) 0 a1 a2 a3 a4 a5 a6 a7 a8 a9 ak ah (gN a5 a6 a7 a8 ak) (oF a5 a6 a7 a8 ak) (gN a5 a6 a7 a8 ak) (oF a5 a6 a7 a8 ak))from
   CA hX (by omega) (Hd hL (hs h0)) (rL hL (hs h0)) (fun i hi=>Ep hL (hs h0) hi) (fun n g hn hg=>Jf hL (hs h0) hX hn (fun i hi=>hg i (by omega))) (gN a5 a6 a7 a8 ak) 0 _ _ rfl rfl (by omega) (fun k hk=>absurd hk (Nat.not_lt_zero _)))
 ·rw[show Af a1 a2 a3 a4 a5 a6 a7 a8 ak ah=0 from if_neg h0]at hGr
  rw[show dN a1 a2 a3 a4 a5 a6 a7 a8 a9 ak ah=0 from if_neg h0]at hX
  refine hX.go [c_ [] hGr] ?_
  exact(av.Bp hX).e [t_ (bne_iff_ne.2 h0)]
end Go.Proofs.YtelidogcomffkaaGreatDoor
namespace Go.Proofs.YtelidogcomffkaaGreatDoor
open Go Go.Sx
variable [dc]
noncomputable def aH (b1:Bool) (x2:Int) (x3:Int) (x4:Int) (x5:Int) (x6:Int) (x7:Int) (x8:Int) (x9:Int) (b10:Bool) (b11:Bool) (b12:Bool) (x13:Int) (n1_:Nat) (g1011:Nat→Int) (n2_:Nat) (g1021:Nat→Int):SC:=
 ⟨[⟨54,bJ 104 [(1, .ptr 0 0),(4, .sl 1 n1_),(6, .sl 2 n2_),(7,B b1),(8,I x2)],[.code (aa Tryz.f54 [1,1,1,1,1,0,1,0,0]), .inLoop (aa Tryz.f54 [1,1,1,1,1,0,1,0,0]), .inBlock 0, .code (aa Tryz.f54 [1,1,1,1,1,1])],{}⟩],[some (.box true [I x3,I x4,I x5,I x6,I x7,I x8,I x9,B b10,B b11,B b12,I x13]),ro n1_ g1011,ro n2_ g1021]⟩
theorem C8 {X:Cx} {a1 a2 a3 a4 a5 a6 a7:Int} {a8 a9 ak:Bool} {ah:Int} {N o m:Nat} {G:Nat→Int} {res:SV} {new:List (Option Vw)} (hX:av X Tryz.prog GL 54 [] res new) (hN:N≤1000) (hom:o+m≤N) (hbt: ∀ i,i<N→(qy a5 a6 (G i)=true↔o≤i∧i<o+m))
  (K: ∀ (st:Bool) (x:Int) (n:Nat) (c:Nat→Int),¬x<(N:Int)→st=(!hasB G (if a8=true then a5 else a6) N)→n=m→(∀ k,k<n→c k=G (o+k))→Ok X (aH st x a1 a2 a3 a4 a5 a6 a7 a8 a9 ak ah N G n c)):
  ∀ (f j:Nat) (st:Bool) (x:Int) (n:Nat) (c0:Nat→Int),x=(j:Int)→N=j+f→st=(!hasB G (if a8=true then a5 else a6) j)→n=cB o m j→(∀ k,k<n→c0 k=G (o+k))→
    Ok X (aH st x a1 a2 a3 a4 a5 a6 a7 a8 a9 ak ah N G n c0):=by
 intro f
 induction f with
 |zero=>
  intro j st x n c0 hx hf hst hn hc
  have:N=j:=hf
  subst this
  exact K st x n c0 (by omega) hst (by rw[hn,Fa hom]) hc
 |succ f ih=>
  intro j st x n c0 hx hf hst hn hc
  have hcl:=Ky o m j
  have h0:x<((N:Nat):Int):=by omega
  have h1:(0:Int)≤x∧x<((N:Nat):Int):=by omega
  have e2:x.toNat=j:=by omega
  have hv:=hbt j (by omega)
  refine hX.go [t_ (dt h0)] ?_
  by_cases h2:(G x.toNat)>a5
  ·refine hX.go [q_ h1,q_ (re N),q_ h1,d_ 14,n_ 3 (t_ (dt h2)),q_ h1,q_ (re N),t_ (dt h2),q_ h1,n_ 4 (t_ (dt h2))] ?_
   by_cases h3:(G x.toNat)<a6
   ·obtain⟨q,h4⟩: ∃ q:Nat→Int, ∀ k,k<(n+1)→q k=if k<n then(c0 k)else(G x.toNat):=⟨_,fun k _=>rfl⟩
    have h5:(n+1)*8≤140737488355328:=by omega
    refine hX.go [t_ (dt h3),q_ h1,q_ (re N),q_ h1,q_ (show ∀ k,k<1→(fun i=>[I (G x.toNat)]) k=[[I (G x.toNat)]].getD k []from by intro k hk;match k,hk with|0,_=>rfl|k+1,hk=>omega),q_ (re 1),q_ (re n),q_ h5,q_ (show ∀ k,k<n+1→(fun i=>[I (q i)]) k=if k<n then(fun i=>[I (c0 i)]) k else(fun i=>[I (G x.toNat)]) (k-n)from fun k hk=>by
   have e0:=h4 k hk
   by_cases c:k<n
   ·simp_all
   ·rw[if_neg c]at e0⊢;simp only[e0]),h_ [.row (fun i=>[I (G x.toNat)]), .row (fun i=>[I (q i)])]] ?_
    rcases aq a8 with h6|h6
    ·have hF:(if a8=true then a5 else a6)=a5:=if_pos h6
     by_cases h7:(G x.toNat)=a5
     ·omega
     ·have h8:Ir (x+1):=by simp only[Ir,aj];omega
      exact hX.h 14 [d_ 22,n_ 3 (t_ h6),q_ h1,q_ (re N),t_ h6,q_ h1,n_ 4 (t_ h6),n_ 4 (f_ (beq_eq_false_iff_ne.2 h7)),n_ 7 (f_ (nf h6)),f_ (beq_eq_false_iff_ne.2 h7),f_ (nf h6),f_ (beq_eq_false_iff_ne.2 h7),f_ rf,q_ h8] [.ae 0, .ae 1, .ae 4] (show Ok X (aH st (x+1) a1 a2 a3 a4 a5 a6 a7 a8 a9 ak ah N G (n+1) q)from ih (j+1) _ _ _ _ (by omega) (by omega) (by rw[hasB,Bool.not_or,←hst];simp[hF,←e2,h7]) (by rw[(v5 (hv.1 (fR.2 ⟨by rw[←e2];exact h2,by rw[←e2];exact h3⟩))).1,hn]) (fun k hk=>by
       rw[h4 k hk]
       by_cases d:k<n
       ·rw[if_pos d];exact hc k d
       ·rw[if_neg d,e2,show o+k=j by have:=(v5 (hv.1 (fR.2 ⟨by rw[←e2];exact h2,by rw[←e2];exact h3⟩))).2;omega]))
    ·have hF:(if a8=true then a5 else a6)=a6:=if_neg (by rw[h6];decide)
     refine hX.go [d_ 22,n_ 8 (f_ h6),n_ 4 (f_ rf),n_ 3 (t_ (nt h6)),q_ h1,q_ (re N),t_ (nt h6),q_ h1,n_ 3 (t_ (nt h6)),f_ rf,t_ (nt h6),f_ rf] ?_
     by_cases h7:(G x.toNat)=a6
     ·omega
     ·have h8:Ir (x+1):=by simp only[Ir,aj];omega
      exact hX.h 9 [f_ (beq_eq_false_iff_ne.2 h7),q_ h8] [.ae 0, .ae 1, .ae 4] (show Ok X (aH st (x+1) a1 a2 a3 a4 a5 a6 a7 a8 a9 ak ah N G (n+1) q)from ih (j+1) _ _ _ _ (by omega) (by omega) (by rw[hasB,Bool.not_or,←hst];simp[hF,←e2,h7]) (by rw[(v5 (hv.1 (fR.2 ⟨by rw[←e2];exact h2,by rw[←e2];exact h3⟩))).1,hn]) (fun k hk=>by
       rw[h4 k hk]
       by_cases d:k<n
       ·rw[if_pos d];exact hc k d
       ·rw[if_neg d,e2,show o+k=j by have:=(v5 (hv.1 (fR.2 ⟨by rw[←e2];exact h2,by rw[←e2];exact h3⟩))).2;omega]))
   ·refine hX.go [f_ (df h3)] ?_
    rcases aq a8 with h4|h4
    ·have hF:(if a8=true then a5 else a6)=a5:=if_pos h4
     by_cases h5:(G x.toNat)=a5
     ·omega
     ·have h6:Ir (x+1):=by simp only[Ir,aj];omega
      exact hX.h 14 [d_ 22,n_ 3 (t_ h4),q_ h1,q_ (re N),t_ h4,q_ h1,n_ 4 (t_ h4),n_ 4 (f_ (beq_eq_false_iff_ne.2 h5)),n_ 7 (f_ (nf h4)),f_ (beq_eq_false_iff_ne.2 h5),f_ (nf h4),f_ (beq_eq_false_iff_ne.2 h5),f_ rf,q_ h6] (aA 3) (show Ok X (aH st (x+1) a1 a2 a3 a4 a5 a6 a7 a8 a9 ak ah N G n c0)from ih (j+1) _ _ _ _ (by omega) (by omega) (by rw[hasB,Bool.not_or,←hst];simp[hF,←e2,h5]) (by rw[iC (fun z=>by have:=fR.1 (hv.2 z);rw[←e2]at this;omega),hn]) (hc))
    ·have hF:(if a8=true then a5 else a6)=a6:=if_neg (by rw[h4];decide)
     refine hX.go [d_ 22,n_ 8 (f_ h4),n_ 4 (f_ rf),n_ 3 (t_ (nt h4)),q_ h1,q_ (re N),t_ (nt h4),q_ h1,n_ 3 (t_ (nt h4)),f_ rf,t_ (nt h4),f_ rf] ?_
     by_cases h5:(G x.toNat)=a6
     ·have h6:Ir (x+1):=by simp only[Ir,aj];omega
      exact hX.h 11 [t_ (beq_iff_eq.2 h5),q_ h6] (aA 3) (show Ok X (aH false (x+1) a1 a2 a3 a4 a5 a6 a7 a8 a9 ak ah N G n c0)from ih (j+1) _ _ _ _ (by omega) (by omega) (by rw[hasB];simp[hF,←e2,h5]) (by rw[iC (fun z=>by have:=fR.1 (hv.2 z);rw[←e2]at this;omega),hn]) (hc))
     ·have h6:Ir (x+1):=by simp only[Ir,aj];omega
      exact hX.h 9 [f_ (beq_eq_false_iff_ne.2 h5),q_ h6] (aA 3) (show Ok X (aH st (x+1) a1 a2 a3 a4 a5 a6 a7 a8 a9 ak ah N G n c0)from ih (j+1) _ _ _ _ (by omega) (by omega) (by rw[hasB,Bool.not_or,←hst];simp[hF,←e2,h5]) (by rw[iC (fun z=>by have:=fR.1 (hv.2 z);rw[←e2]at this;omega),hn]) (hc))
  ·refine hX.go [q_ h1,q_ (re N),q_ h1,d_ 14,n_ 8 (f_ (df h2)),f_ rf] ?_
   rcases aq a8 with h3|h3
   ·have hF:(if a8=true then a5 else a6)=a5:=if_pos h3
    by_cases h4:(G x.toNat)=a5
    ·have h5:Ir (x+1):=by simp only[Ir,aj];omega
     exact hX.h 16 [d_ 22,n_ 3 (t_ h3),q_ h1,q_ (re N),t_ h3,q_ h1,n_ 4 (t_ h3),n_ 6 (t_ (beq_iff_eq.2 h4)),t_ rt,q_ h5] (aA 3) (show Ok X (aH false (x+1) a1 a2 a3 a4 a5 a6 a7 a8 a9 ak ah N G n c0)from ih (j+1) _ _ _ _ (by omega) (by omega) (by rw[hasB];simp[hF,←e2,h4]) (by rw[iC (fun z=>by have:=fR.1 (hv.2 z);rw[←e2]at this;omega),hn]) (hc))
    ·have h5:Ir (x+1):=by simp only[Ir,aj];omega
     exact hX.h 14 [d_ 22,n_ 3 (t_ h3),q_ h1,q_ (re N),t_ h3,q_ h1,n_ 4 (t_ h3),n_ 4 (f_ (beq_eq_false_iff_ne.2 h4)),n_ 7 (f_ (nf h3)),f_ (beq_eq_false_iff_ne.2 h4),f_ (nf h3),f_ (beq_eq_false_iff_ne.2 h4),f_ rf,q_ h5] (aA 3) (show Ok X (aH st (x+1) a1 a2 a3 a4 a5 a6 a7 a8 a9 ak ah N G n c0)from ih (j+1) _ _ _ _ (by omega) (by omega) (by rw[hasB,Bool.not_or,←hst];simp[hF,←e2,h4]) (by rw[iC (fun z=>by have:=fR.1 (hv.2 z);rw[←e2]at this;omega),hn]) (hc))
   ·have hF:(if a8=true then a5 else a6)=a6:=if_neg (by rw[h3];decide)
    refine hX.go [d_ 22,n_ 8 (f_ h3),n_ 4 (f_ rf),n_ 3 (t_ (nt h3)),q_ h1,q_ (re N),t_ (nt h3),q_ h1,n_ 3 (t_ (nt h3)),f_ rf,t_ (nt h3),f_ rf] ?_
    by_cases h4:(G x.toNat)=a6
    ·have h5:Ir (x+1):=by simp only[Ir,aj];omega
     exact hX.h 11 [t_ (beq_iff_eq.2 h4),q_ h5] (aA 3) (show Ok X (aH false (x+1) a1 a2 a3 a4 a5 a6 a7 a8 a9 ak ah N G n c0)from ih (j+1) _ _ _ _ (by omega) (by omega) (by rw[hasB];simp[hF,←e2,h4]) (by rw[iC (fun z=>by have:=fR.1 (hv.2 z);rw[←e2]at this;omega),hn]) (hc))
    ·have h5:Ir (x+1):=by simp only[Ir,aj];omega
     exact hX.h 9 [f_ (beq_eq_false_iff_ne.2 h4),q_ h5] (aA 3) (show Ok X (aH st (x+1) a1 a2 a3 a4 a5 a6 a7 a8 a9 ak ah N G n c0)from ih (j+1) _ _ _ _ (by omega) (by omega) (by rw[hasB,Bool.not_or,←hst];simp[hF,←e2,h4]) (by rw[iC (fun z=>by have:=fR.1 (hv.2 z);rw[←e2]at this;omega),hn]) (hc))
theorem EE {s e mo:Int} {long back eom:Bool} (h:dM s e mo long back eom=mN s e mo back eom):dO s e mo long back eom=oN s e mo back eom:=by unfold dO oN;rw[h]
theorem FJ {X:Cx} {a1 a2 a3 a4 a5 a6 a7:Int} {a8 a9 ak:Bool} {ah:Int} {n:Nat} {x:Int} {st:Bool} {c0:Nat→Int} (hL:oj a5 a6 a7) (hs:a6-a5≤6200*a7)
  (hX:av X Tryz.prog GL 54 [] (.af [.sl 0 (dM a5 a6 a7 a9 a8 ak+2),I 0]) [ro (dM a5 a6 a7 a9 a8 ak+2) (dV a5 a6 a7 a9 a8 ak)]) (h0: ¬x<(gN a5 a6 a7 a8 ak:Int))
  (hst':st=(!hasB (oF a5 a6 a7 a8 ak) (if a8=true then a5 else a6) (gN a5 a6 a7 a8 ak))) (hm:n=mN a5 a6 a7 a8 ak)
  (hg: ∀ i,i<n→c0 i=oF a5 a6 a7 a8 ak (oN a5 a6 a7 a8 ak+i)):Ok X (aH st x a1 a2 a3 a4 a5 a6 a7 a8 a9 ak ah (gN a5 a6 a7 a8 ak) (oF a5 a6 a7 a8 ak) n c0):=by
 have hN:=pg (back:=a8) (eom:=ak) hL hs
 have hmN:=rL (back:=a8) (eom:=ak) hL hs
 have fin: ∀ (L:Nat) (Q:Nat→Int),L=dM a5 a6 a7 a9 a8 ak+2→(∀ i,i<L→Q i=dV a5 a6 a7 a9 a8 ak i)→av X Tryz.prog GL 54 [] (.af [.sl 0 L,I 0]) [ro L Q]:=fun L Q hl hq=>by
  subst hl
  refine av.same hX ⟨⟨rfl,rfl,rfl,rfl,fun i hi=> ?_⟩,trivial⟩
  simp_all
 refine hX.go [f_ (df h0)] ?_
 rcases aq a9 with h1|h1
 ·refine hX.go [t_ h1,t_ h1] ?_
  rcases aq st with h2|h2
  ·refine hX.go [n_ 4 (t_ h2)] ?_
   by_cases h3:((n:Nat):Int)>0
   ·refine hX.go [t_ (dt h3)] ?_
    rcases aq a8 with h4|h4
    ·have h5:(0:Int)≤1∧(1:Int)≤((n:Nat):Int):=by omega
     obtain⟨q,h6⟩: ∃ q:Nat→Int, ∀ k,k<(1+((((n:Nat):Int).toNat)-1))→q k=if k<1 then a5 else(c0 ((k-1)+1)):=⟨_,fun k _=>rfl⟩
     have h7:(1+((((n:Nat):Int).toNat)-1))*8≤140737488355328:=by omega
     obtain⟨Q,h8⟩: ∃ Q:Nat→Int, ∀ k,k<((1+((((n:Nat):Int).toNat)-1))+1)→Q k=if k<(1+((((n:Nat):Int).toNat)-1))then(q k)else a6:=⟨_,fun k _=>rfl⟩
     have h9:((1+((((n:Nat):Int).toNat)-1))+1)*8≤140737488355328:=by omega
     refine hX.go [t_ h4,q_ (re n),q_ (show(0:Int)≤((n:Nat):Int)∧((n:Nat):Int)≤((n:Nat):Int)from by first|decide|omega|(constructor<;>omega)),q_ h5,q_ (show ∀ k,k<1→(fun i=>[I a5]) k=[[I a5]].getD k []from by intro k hk;match k,hk with|0,_=>rfl|k+1,hk=>omega),q_ (show((((n:Nat):Int).toNat)-1)=((((n:Nat):Int).toNat)-1)from rfl),q_ (re 1),q_ h7,q_ (show ∀ k,k<1+((((n:Nat):Int).toNat)-1)→(fun i=>[I (q i)]) k=if k<1 then(fun i=>[I a5]) k else(fun i=>[I (c0 (i+1))]) (k-1)from fun k hk=>by
  have e0:=h6 k hk
  by_cases c:k<1
  ·simp_all
  ·rw[if_neg c]at e0⊢;simp only[e0]),q_ (show ∀ k,k<1→(fun i=>[I a6]) k=[[I a6]].getD k []from by intro k hk;match k,hk with|0,_=>rfl|k+1,hk=>omega),q_ (re 1),q_ (show(1+((((n:Nat):Int).toNat)-1))=(1+((((n:Nat):Int).toNat)-1))from rfl),q_ h9,q_ (show ∀ k,k<(1+((((n:Nat):Int).toNat)-1))+1→(fun i=>[I (Q i)]) k=if k<(1+((((n:Nat):Int).toNat)-1))then(fun i=>[I (q i)]) k else(fun i=>[I a6]) (k-(1+((((n:Nat):Int).toNat)-1)))from fun k hk=>by
  have e0:=h8 k hk
  by_cases c:k<(1+((((n:Nat):Int).toNat)-1))
  ·simp_all
  ·rw[if_neg c]at e0⊢;simp only[e0]),d_ 8,h_ [.row (fun i=>[I a5]), .row (fun i=>[I (q i)]), .row (fun i=>[I a6]), .row (fun i=>[I (Q i)])]] ?_
     by_cases h10:((((1+((((n:Nat):Int).toNat)-1))+1):Nat):Int)>1201
     ·exact absurd h10 (by omega)
     ·have e3:dM a5 a6 a7 a9 a8 ak=mN a5 a6 a7 a8 ak-1:=(by unfold dM;rw[if_pos ⟨h1,by rw[hst']at h2;simpa using h2⟩])
      have e1:dO a5 a6 a7 a9 a8 ak=gN a5 a6 a7 a8 ak-1-dM a5 a6 a7 a9 a8 ak:=if_pos h4
      have e2:oN a5 a6 a7 a8 ak=gN a5 a6 a7 a8 ak-1-mN a5 a6 a7 a8 ak:=if_pos h4
      exact(fin (((1+((((n:Nat):Int).toNat)-1))+1)) Q (by omega) (fun i hi=>by
       rw[h8 i (by omega)];unfold dV fZ
       by_cases c1:i=0
       ·simp_all
       ·rw[if_neg c1]
        by_cases c2:i<dM a5 a6 a7 a9 a8 ak+1
        ·grind
        ·rw[if_neg (by omega),if_neg c2])).e [f_ (df h10)] [7]
    ·have h5:Ir (((n:Nat):Int)-1):=by simp only[Ir,aj];omega
     have h6:(0:Int)≤(((n:Nat):Int)-1)∧(((n:Nat):Int)-1)≤((n:Nat):Int):=by omega
     have h7:(0:Int)≤0∧(0:Int)≤(((n:Nat):Int)-1):=by omega
     obtain⟨q,h8⟩: ∃ q:Nat→Int, ∀ k,k<(1+(((((n:Nat):Int)-1).toNat)-0))→q k=if k<1 then a5 else(c0 ((k-1)+0)):=⟨_,fun k _=>rfl⟩
     have h9:(1+(((((n:Nat):Int)-1).toNat)-0))*8≤140737488355328:=by omega
     obtain⟨Q,h10⟩: ∃ Q:Nat→Int, ∀ k,k<((1+(((((n:Nat):Int)-1).toNat)-0))+1)→Q k=if k<(1+(((((n:Nat):Int)-1).toNat)-0))then(q k)else a6:=⟨_,fun k _=>rfl⟩
     have h11:((1+(((((n:Nat):Int)-1).toNat)-0))+1)*8≤140737488355328:=by omega
     refine hX.go [f_ h4,q_ h5,q_ (re n),q_ h6,q_ h7,q_ (show ∀ k,k<1→(fun i=>[I a5]) k=[[I a5]].getD k []from by intro k hk;match k,hk with|0,_=>rfl|k+1,hk=>omega),q_ (show(((((n:Nat):Int)-1).toNat)-0)=(((((n:Nat):Int)-1).toNat)-0)from rfl),q_ (re 1),q_ h9,q_ (show ∀ k,k<1+(((((n:Nat):Int)-1).toNat)-0)→(fun i=>[I (q i)]) k=if k<1 then(fun i=>[I a5]) k else(fun i=>[I (c0 (i+0))]) (k-1)from fun k hk=>by
  have e0:=h8 k hk
  by_cases c:k<1
  ·simp_all
  ·rw[if_neg c]at e0⊢;simp only[e0]),q_ (show ∀ k,k<1→(fun i=>[I a6]) k=[[I a6]].getD k []from by intro k hk;match k,hk with|0,_=>rfl|k+1,hk=>omega),q_ (re 1),q_ (show(1+(((((n:Nat):Int)-1).toNat)-0))=(1+(((((n:Nat):Int)-1).toNat)-0))from rfl),q_ h11,q_ (show ∀ k,k<(1+(((((n:Nat):Int)-1).toNat)-0))+1→(fun i=>[I (Q i)]) k=if k<(1+(((((n:Nat):Int)-1).toNat)-0))then(fun i=>[I (q i)]) k else(fun i=>[I a6]) (k-(1+(((((n:Nat):Int)-1).toNat)-0)))from fun k hk=>by
  have e0:=h10 k hk
  by_cases c:k<(1+(((((n:Nat):Int)-1).toNat)-0))
  ·simp_all
  ·rw[if_neg c]at e0⊢;simp only[e0]),d_ 8,h_ [.row (fun i=>[I a5]), .row (fun i=>[I (q i)]), .row (fun i=>[I a6]), .row (fun i=>[I (Q i)])]] ?_
     by_cases h12:((((1+(((((n:Nat):Int)-1).toNat)-0))+1):Nat):Int)>1201
     ·exact absurd h12 (by omega)
     ·have e3:dM a5 a6 a7 a9 a8 ak=mN a5 a6 a7 a8 ak-1:=(by unfold dM;rw[if_pos ⟨h1,by rw[hst']at h2;simpa using h2⟩])
      have e1:dO a5 a6 a7 a9 a8 ak=1:=if_neg (by rw[h4];decide)
      have e2:oN a5 a6 a7 a8 ak=1:=if_neg (by rw[h4];decide)
      exact(fin (((1+(((((n:Nat):Int)-1).toNat)-0))+1)) Q (by omega) (fun i hi=>by
       rw[h10 i (by omega)];unfold dV fZ
       by_cases c1:i=0
       ·simp_all
       ·rw[if_neg c1]
        by_cases c2:i<dM a5 a6 a7 a9 a8 ak+1
        ·grind
        ·rw[if_neg (by omega),if_neg c2])).e [f_ (df h12)] [7]
   ·obtain⟨q,h4⟩: ∃ q:Nat→Int, ∀ k,k<(1+n)→q k=if k<1 then a5 else(c0 (k-1)):=⟨_,fun k _=>rfl⟩
    have h5:(1+n)*8≤140737488355328:=by omega
    obtain⟨Q,h6⟩: ∃ Q:Nat→Int, ∀ k,k<((1+n)+1)→Q k=if k<(1+n)then(q k)else a6:=⟨_,fun k _=>rfl⟩
    have h7:((1+n)+1)*8≤140737488355328:=by omega
    refine hX.go [f_ (df h3),q_ (show ∀ k,k<1→(fun i=>[I a5]) k=[[I a5]].getD k []from by intro k hk;match k,hk with|0,_=>rfl|k+1,hk=>omega),q_ (re n),q_ (re 1),q_ h5,q_ (show ∀ k,k<1+n→(fun i=>[I (q i)]) k=if k<1 then(fun i=>[I a5]) k else(fun i=>[I (c0 i)]) (k-1)from fun k hk=>by
  have e0:=h4 k hk
  by_cases c:k<1
  ·simp_all
  ·rw[if_neg c]at e0⊢;simp only[e0]),q_ (show ∀ k,k<1→(fun i=>[I a6]) k=[[I a6]].getD k []from by intro k hk;match k,hk with|0,_=>rfl|k+1,hk=>omega),q_ (re 1),q_ (show(1+n)=(1+n)from rfl),q_ h7,q_ (show ∀ k,k<(1+n)+1→(fun i=>[I (Q i)]) k=if k<(1+n)then(fun i=>[I (q i)]) k else(fun i=>[I a6]) (k-(1+n))from fun k hk=>by
  have e0:=h6 k hk
  by_cases c:k<(1+n)
  ·simp_all
  ·rw[if_neg c]at e0⊢;simp only[e0]),d_ 8,h_ [.row (fun i=>[I a5]), .row (fun i=>[I (q i)]), .row (fun i=>[I a6]), .row (fun i=>[I (Q i)])]] ?_
    by_cases h8:((((1+n)+1):Nat):Int)>1201
    ·exact absurd h8 (by omega)
    ·have e3:dM a5 a6 a7 a9 a8 ak=0:=(by unfold dM;(repeat' split)<;>omega)
     have e1:=EE (s:=a5) (e:=a6) (mo:=a7) (long:=a9) (back:=a8) (eom:=ak) (by omega)
     exact(fin (((1+n)+1)) Q (by omega) (fun i hi=>by
      rw[h6 i (by omega)];unfold dV fZ
      by_cases c1:i=0
      ·simp_all
      ·rw[if_neg c1]
       by_cases c2:i<dM a5 a6 a7 a9 a8 ak+1
       ·omega
       ·rw[if_neg (by omega),if_neg c2])).e [f_ (df h8)] [6]
  ·obtain⟨q,h3⟩: ∃ q:Nat→Int, ∀ k,k<(1+n)→q k=if k<1 then a5 else(c0 (k-1)):=⟨_,fun k _=>rfl⟩
   have h4:(1+n)*8≤140737488355328:=by omega
   obtain⟨Q,h5⟩: ∃ Q:Nat→Int, ∀ k,k<((1+n)+1)→Q k=if k<(1+n)then(q k)else a6:=⟨_,fun k _=>rfl⟩
   have h6:((1+n)+1)*8≤140737488355328:=by omega
   refine hX.go [n_ 4 (f_ h2),f_ rf,q_ (show ∀ k,k<1→(fun i=>[I a5]) k=[[I a5]].getD k []from by intro k hk;match k,hk with|0,_=>rfl|k+1,hk=>omega),q_ (re n),q_ (re 1),q_ h4,q_ (show ∀ k,k<1+n→(fun i=>[I (q i)]) k=if k<1 then(fun i=>[I a5]) k else(fun i=>[I (c0 i)]) (k-1)from fun k hk=>by
  have e0:=h3 k hk
  by_cases c:k<1
  ·simp_all
  ·rw[if_neg c]at e0⊢;simp only[e0]),q_ (show ∀ k,k<1→(fun i=>[I a6]) k=[[I a6]].getD k []from by intro k hk;match k,hk with|0,_=>rfl|k+1,hk=>omega),q_ (re 1),q_ (show(1+n)=(1+n)from rfl),q_ h6,q_ (show ∀ k,k<(1+n)+1→(fun i=>[I (Q i)]) k=if k<(1+n)then(fun i=>[I (q i)]) k else(fun i=>[I a6]) (k-(1+n))from fun k hk=>by
  have e0:=h5 k hk
  by_cases c:k<(1+n)
  ·simp_all
  ·rw[if_neg c]at e0⊢;simp only[e0]),d_ 8,h_ [.row (fun i=>[I a5]), .row (fun i=>[I (q i)]), .row (fun i=>[I a6]), .row (fun i=>[I (Q i)])]] ?_
   by_cases h7:((((1+n)+1):Nat):Int)>1201
   ·exact absurd h7 (by omega)
   ·have e3:dM a5 a6 a7 a9 a8 ak=mN a5 a6 a7 a8 ak:=(by unfold dM;rw[if_neg (fun z=>by rw[hst',z.2]at h2;cases h2)])
    have e1:=EE (s:=a5) (e:=a6) (mo:=a7) (long:=a9) (back:=a8) (eom:=ak) (by omega)
    exact(fin (((1+n)+1)) Q (by omega) (fun i hi=>by
     rw[h5 i (by omega)];unfold dV fZ
     by_cases c1:i=0
     ·simp_all
     ·rw[if_neg c1]
      by_cases c2:i<dM a5 a6 a7 a9 a8 ak+1
      ·grind
      ·rw[if_neg (by omega),if_neg c2])).e [f_ (df h7)] [6]
 ·obtain⟨q,h2⟩: ∃ q:Nat→Int, ∀ k,k<(1+n)→q k=if k<1 then a5 else(c0 (k-1)):=⟨_,fun k _=>rfl⟩
  have h3:(1+n)*8≤140737488355328:=by omega
  obtain⟨Q,h4⟩: ∃ Q:Nat→Int, ∀ k,k<((1+n)+1)→Q k=if k<(1+n)then(q k)else a6:=⟨_,fun k _=>rfl⟩
  have h5:((1+n)+1)*8≤140737488355328:=by omega
  refine hX.go [f_ h1,f_ h1,n_ 5 (f_ rf),q_ (show ∀ k,k<1→(fun i=>[I a5]) k=[[I a5]].getD k []from by intro k hk;match k,hk with|0,_=>rfl|k+1,hk=>omega),q_ (re n),q_ (re 1),q_ h3,q_ (show ∀ k,k<1+n→(fun i=>[I (q i)]) k=if k<1 then(fun i=>[I a5]) k else(fun i=>[I (c0 i)]) (k-1)from fun k hk=>by
  have e0:=h2 k hk
  by_cases c:k<1
  ·simp_all
  ·rw[if_neg c]at e0⊢;simp only[e0]),q_ (show ∀ k,k<1→(fun i=>[I a6]) k=[[I a6]].getD k []from by intro k hk;match k,hk with|0,_=>rfl|k+1,hk=>omega),q_ (re 1),q_ (show(1+n)=(1+n)from rfl),q_ h5,q_ (show ∀ k,k<(1+n)+1→(fun i=>[I (Q i)]) k=if k<(1+n)then(fun i=>[I (q i)]) k else(fun i=>[I a6]) (k-(1+n))from fun k hk=>by
  have e0:=h4 k hk
  by_cases c:k<(1+n)
  ·simp_all
  ·rw[if_neg c]at e0⊢;simp only[e0]),d_ 8,h_ [.row (fun i=>[I a5]), .row (fun i=>[I (q i)]), .row (fun i=>[I a6]), .row (fun i=>[I (Q i)])]] ?_
  by_cases h6:((((1+n)+1):Nat):Int)>1201
  ·exact absurd h6 (by omega)
  ·have e3:dM a5 a6 a7 a9 a8 ak=mN a5 a6 a7 a8 ak:=(by unfold dM;rw[if_neg (fun z=>by rw[h1]at z;cases z.1)])
   have e1:=EE (s:=a5) (e:=a6) (mo:=a7) (long:=a9) (back:=a8) (eom:=ak) (by omega)
   exact(fin (((1+n)+1)) Q (by omega) (fun i hi=>by
    rw[h4 i (by omega)];unfold dV fZ
    by_cases c1:i=0
    ·simp_all
    ·rw[if_neg c1]
     by_cases c2:i<dM a5 a6 a7 a9 a8 ak+1
     ·grind
     ·rw[if_neg (by omega),if_neg c2])).e [f_ (df h6)] [6]
theorem MG (a1 a2 a3 a4 a5 a6 a7:Int) (a8 a9 ak:Bool) (ah:Int) (hs:rQ a1 a2 a3 a4 a5 a6 a7 ah=0→a6-a5≤6200*a7):
  S 54 [.agg [I a1,I a2,I a3,I a4,I a5,I a6,I a7,B a8,B a9,B ak,I ah]] [] (.af [.sl 0 (dN a1 a2 a3 a4 a5 a6 a7 a8 a9 ak ah),I (rQ a1 a2 a3 a4 a5 a6 a7 ah)]) [ro (dN a1 a2 a3 a4 a5 a6 a7 a8 a9 ak ah) (dV a5 a6 a7 a9 a8 ak)]:=by
 refine ab.st fun X hX=> ?_
 have hGr:=G_ a1 a2 a3 a4 a5 a6 a7 a8 a9 ak ah hs
 by_cases h0:(rQ a1 a2 a3 a4 a5 a6 a7 ah)=0
 ·have hL:=oi h0
  have hN:=pg (back:=a8) (eom:=ak) hL (hs h0)
  rw[show Af a1 a2 a3 a4 a5 a6 a7 a8 ak ah=gN a5 a6 a7 a8 ak from if_pos h0,h0]at hGr
  rw[show dN a1 a2 a3 a4 a5 a6 a7 a8 a9 ak ah=dM a5 a6 a7 a9 a8 ak+2 from if_pos h0,h0]at hX
  refine hX.go [c_ [] hGr] ?_
  exact hX.h 17 [f_ rf] [.ae 0, .ae 1, .nil 1] (show Ok X (aH true 0 a1 a2 a3 a4 a5 a6 a7 a8 a9 ak ah (gN a5 a6 a7 a8 ak) (oF a5 a6 a7 a8 ak) 0 (fun _=>default))from
   C8 hX (by omega) (Hd hL (hs h0)) (fun i hi=>Ep hL (hs h0) hi) (fun st x n c g0 g1 g2 g3=>FJ hL (hs h0) hX g0 g1 g2 g3) (gN a5 a6 a7 a8 ak) 0 _ _ _ _ rfl (by omega) rfl (by unfold cB;omega) (fun k hk=>absurd hk (Nat.not_lt_zero _)))
 ·rw[show Af a1 a2 a3 a4 a5 a6 a7 a8 ak ah=0 from if_neg h0]at hGr
  rw[show dN a1 a2 a3 a4 a5 a6 a7 a8 a9 ak ah=0 from if_neg h0]at hX
  refine hX.go [c_ [] hGr] ?_
  exact(av.Bp hX).e [t_ (bne_iff_ne.2 h0)]
end Go.Proofs.YtelidogcomffkaaGreatDoor
namespace Go.Proofs.YtelidogcomffkaaGreatDoor
open Go Go.Sx
variable [dc]
def Ld (s e k:Int):Bool:=decide (e-s≤31*k∧s≤e)
theorem Lj {n m:Nat} {f g:Nat→Int} (h:n=m∧ ∀ i,i<n→f i=g i) (hn:n≤100000:=by decide):S 58 [.sl 0 n, .sl 1 m] [ri n f,ri m g] (B true) []:=by
 have:=Ll (n:=n) (m:=m) (f:=f) (g:=g) (by omega)
 rw[decide_eq_true h]at this
 exact this
end Go.Proofs.YtelidogcomffkaaGreatDoor
namespace Go.Proofs.YtelidogcomffkaaGreatDoor
open Go Go.Sx
variable [dc]
theorem JP {s e k:Int} (h:Ld s e k=true):e-s≤31*k∧s≤e:=of_decide_eq_true h
theorem Ds {n m:Nat} {f g:Nat→Int} (h:n=m∧ ∀ i,i<n→f i=g i) (hn:n≤100000):S 58 [.sl 0 n, .sl 1 m] [ri n f,ri m g] (B true) []:=Lj h hn
theorem EF {s e mo:Int} {long back eom:Bool}:dM s e mo long back eom≤mN s e mo back eom:=by unfold dM;(repeat' split)<;>omega
end Go.Proofs.YtelidogcomffkaaGreatDoor
namespace Go.Proofs.YtelidogcomffkaaGreatDoor
open Go Go.Sx
variable [dc]
variable {s e mo:Int} {long back eom:Bool}
theorem BL:dV s e mo long back eom 0=s:=by unfold dV fZ;rw[if_pos rfl]
theorem BM:dV s e mo long back eom (dM s e mo long back eom+1)=e:=by unfold dV fZ;rw[if_neg (by omega),if_neg (by omega)]
theorem Hx {i:Nat} (h1:1≤i) (h2:i≤dM s e mo long back eom):dV s e mo long back eom i=oF s e mo back eom (dO s e mo long back eom+(i-1)):=by
 unfold dV fZ;rw[if_neg (by omega),if_pos (by omega)]
theorem Gt (h:oj s e mo) (hs:e-s≤6200*mo) (hb:back=true) {i:Nat} (h1:1≤i) (h2:i≤dM s e mo long back eom+1):
  dV s e mo long back eom i=(mw s e mo back eom (dM s e mo long back eom+1-i)).1:=by
 have hm:=rL (back:=back) (eom:=eom) h hs
 have hd:=EF (s:=s) (e:=e) (mo:=mo) (long:=long) (back:=back) (eom:=eom)
 rcases Nat.lt_or_ge (dM s e mo long back eom) i with g|g
 ·rw[show i=dM s e mo long back eom+1 by omega,BM,Nat.sub_self,p9 h,if_pos hb]
 ·rw[Hx h1 g]
  unfold oF dO
  rw[if_pos hb,if_pos hb]
  congr 2;omega
theorem Jh (h:oj s e mo) (hb:back=false) {i:Nat} (h2:i≤dM s e mo long back eom):dV s e mo long back eom i=(mw s e mo back eom i).1:=by
 rcases Nat.eq_zero_or_pos i with rfl|g
 ·rw[BL,p9 h,if_neg (by rw[hb];decide)]
 ·rw[Hx g h2]
  unfold oF dO
  rw[if_neg (by rw[hb];decide),if_neg (by rw[hb];decide)]
  congr 2;omega
theorem GJ (h:oj s e mo) (hs:e-s≤6200*mo) {j:Nat} (h1:1≤j) (hj:j≤dM s e mo long back eom):s<(mw s e mo back eom j).1∧(mw s e mo back eom j).1<e:=by
 have hm:=rL (back:=back) (eom:=eom) h hs
 have hd:=EF (s:=s) (e:=e) (mo:=mo) (long:=long) (back:=back) (eom:=eom)
 exact fR.1 ((CW h hs (by omega)).2 ⟨h1,by omega⟩)
theorem Jg (h:oj s e mo) (hs:e-s≤6200*mo) {i:Nat} (h1:1≤i) (h2:i≤dM s e mo long back eom):s<dV s e mo long back eom i∧dV s e mo long back eom i<e:=by
 rcases aq back with hb|hb
 ·rw[Gt h hs hb h1 (by omega)];exact GJ (long:=long) h hs (by omega) (by omega)
 ·rw[Jh h hb h2];exact GJ (long:=long) h hs h1 h2
theorem Kt {a1 a2 a3 a4 a5 a6 a7 ah:Int} {a8 a9 ak:Bool} (h:rQ a1 a2 a3 a4 a5 a6 a7 ah=0):dN a1 a2 a3 a4 a5 a6 a7 a8 a9 ak ah=dM a5 a6 a7 a9 a8 ak+2:=by unfold dN;rw[if_pos h]
theorem I5 {a1 a2 a3 a4 a5 a6 a7 ah:Int} {a8 ak:Bool} (h:rQ a1 a2 a3 a4 a5 a6 a7 ah=0):Af a1 a2 a3 a4 a5 a6 a7 a8 ak ah=gN a5 a6 a7 a8 ak:=by unfold Af;rw[if_pos h]
end Go.Proofs.YtelidogcomffkaaGreatDoor
