/-
A loan's steps and days, as the reference finds them (chapter 16).
-/
import Derived.Test.YtgojmodiaffcbaaGreatDoorGd
import Derived.Test.YtgojmodiaffcbaaGreatDoorProg
import Derived.KernelRfl
set_option linter.unusedSectionVars false
set_option linter.unusedSimpArgs false
set_option linter.unusedVariables false
set_option maxRecDepth 100000
namespace Go.Proofs.YtgojmodiaffcbaaGreatDoor
open Go Go.Sx
variable [EnvT]
noncomputable def demurrageref16_Grid_h0 (x1:Int) (x2:Int) (x3:Int) (x4:Int) (x5:Int) (x6:Int) (x7:Int) (x8:Int) (b9:Bool) (b10:Bool) (b11:Bool) (x12:Int) (n1_:Nat) (g1011:Nat→Int):SC:=
 ⟨[⟨34,slo 75 [(1, .ptr 0 0),(5, .sl 1 n1_),(6,I x1)],[.code (bodyAt Tryz.f34 [1,1,1,1,0,1,0,0]), .inLoop (bodyAt Tryz.f34 [1,1,1,1,0,1,0,0]), .inBlock 0, .code (bodyAt Tryz.f34 [1,1,1,1,1])],{}⟩],[some (.box true [I x2,I x3,I x4,I x5,I x6,I x7,I x8,B b9,B b10,B b11,I x12]),ro n1_ g1011]⟩
theorem rg_loop {X:Cx} {a1 a2 a3 a4 a5 a6 a7:Int} {a8 a9 a10:Bool} {a11:Int} (st:Nat→Int×Int) (hst:st=stp a5 a6 a7 a8 a10) (N:Nat) (hNe:N=gN a5 a6 a7 a8 a10) (hN:N≤1000) (hm:1≤a7∧a7≤12)
  (hX:IsFin X Tryz.prog GL 34 [] (.tup [.sl 0 N,I 0]) [ro N (gcV a5 a6 a7 a8 a10)]):
  ∀ (f k n:Nat) (x:Int) (g:Nat→Int),x=(k:Int)→n=k→k+f=1300→cntG st a5 a6 f k=N→(∀ i,i<k→g i=(st (if a8=true then k-1-i else i)).1)→
    Ok X (demurrageref16_Grid_h0 x a1 a2 a3 a4 a5 a6 a7 a8 a9 a10 a11 n g):=by
 subst hst
 obtain⟨st,hst⟩: ∃ st,st=stp a5 a6 a7 a8 a10:=⟨_,rfl⟩
 rw[←hst]
 have fin: ∀ (m:Nat) (q:Nat→Int),m=N→(∀ i,i<m→q i=gcV a5 a6 a7 a8 a10 i)→IsFin X Tryz.prog GL 34 [] (.tup [.sl 0 m,I 0]) [ro m q]:=fun m q hm hq=>by
  subst hm
  refine IsFin.same hX ⟨⟨rfl,rfl,rfl,rfl,fun i hi=> ?_⟩,trivial⟩
  show[I (q i)]=_;rw[hq i hi]
 have gcE: ∀ i,gcV a5 a6 a7 a8 a10 i=(st (if a8=true then N-1-i else i)).1:=fun i=>by unfold gcV;rw[←hst,←hNe]
 intro f
 induction f with
 |zero=>intro k n x g hx hn hk hc _;exact absurd hc (by unfold cntG;omega)
 |succ f ih=>
  intro k n x g hx hn hk hc hg
  have hkN:k≤N:=by rw[←hc];exact(cntG_ok (f+1) k).1
  have m1:x*a7≤x*12:=Int.mul_le_mul_of_nonneg_left hm.2 (by omega)
  have m2:x*1≤x*a7:=Int.mul_le_mul_of_nonneg_left hm.1 (by omega)
  by_cases h0:x<1300
  ·refine hX.go [t_ (dt h0)] ?_
   rcases bcase a8 with h1|h1
   ·have hv:mv a6 ((0-x)*a7) a10=st k:=by rw[hst];unfold stp;rw[if_pos h1,hx,Int.zero_sub,Int.neg_mul,Int.mul_neg]
    have m3:(0-x)*a7= -(x*a7):=by rw[Int.zero_sub,Int.neg_mul]
    have h2:Ir (0-x):=by simp only[Ir,InR];omega
    have h3:Ir ((0-x)*a7):=by simp only[Ir,InR];omega
    refine hX.go [t_ h1,q_ h2,q_ h3,c_ [] (rMove a6 ((0-x)*a7) a10)] ?_
    by_cases h4:((mv a6 ((0-x)*a7) a10).2)=0
    ·obtain⟨q,h5⟩: ∃ q:Nat→Int, ∀ k,k<(1+n)→q k=if k<1 then((mv a6 ((0-x)*a7) a10).1)else(g (k-1)):=⟨_,fun k _=>rfl⟩
     have hz:(st k).2=0:=by rw[←hv];exact h4
     have hq: ∀ i,i<k+1→q i=(st (k-i)).1:=fun i hi=>by
      rw[h5 i (by omega)]
      by_cases c:i<1
      ·rw[if_pos c,hv,show k-i=k by omega]
      ·rw[if_neg c,hg (i-1) (by omega),if_pos h1,show k-1-(i-1)=k-i by omega]
     have h6:(1+n)*8≤140737488355328:=by omega
     refine hX.go [f_ (bne_eq_false_iff_eq.2 h4),t_ h1,q_ (show ∀ k,k<1→(fun i=>[I ((mv a6 ((0-x)*a7) a10).1)]) k=[[I ((mv a6 ((0-x)*a7) a10).1)]].getD k []from by intro k hk;match k,hk with|0,_=>rfl|k+1,hk=>omega),q_ (re n),q_ (re 1),q_ h6,q_ (show ∀ k,k<1+n→(fun i=>[I (q i)]) k=if k<1 then(fun i=>[I ((mv a6 ((0-x)*a7) a10).1)]) k else(fun i=>[I (g i)]) (k-1)from fun k hk=>by
    have e0:=h5 k hk
    by_cases c:k<1
    ·rw[if_pos c]at e0⊢;simp only[e0]
    ·rw[if_neg c]at e0⊢;simp only[e0]),h_ [.row (fun i=>[I ((mv a6 ((0-x)*a7) a10).1)]), .row (fun i=>[I (q i)])]] ?_
     by_cases h7:x>0
     ·refine hX.go [n_ 5 (t_ (dt h7))] ?_
      by_cases h8:((mv a6 ((0-x)*a7) a10).1)≤a5
      ·refine hX.go [n_ 4 (t_ (dt h8)),t_ (dt h7),t_ (dt h8),t_ (dt h7),t_ rt] ?_
       by_cases h9:(((1+n):Nat):Int)>1202
       ·exact absurd h9 (by omega)
       ·have hN':N=k+1:=by rw[←hc];exact cntG_stop hz (by omega) (btw_f.2 (by rw[←hv];omega))
        exact(fin (1+n) q (by omega) (fun i hi=>by rw[hq i (by omega)];rw[gcE,if_pos h1,hN',show k+1-1-i=k-i by omega])).e [f_ (df h9)] [3]
      ·refine hX.go [n_ 4 (f_ (df h8)),t_ (dt h7),f_ (df h8),t_ (dt h7)] ?_
       by_cases h9:((mv a6 ((0-x)*a7) a10).1)≥a6
       ·refine hX.go [t_ (dt h9)] ?_
        by_cases h10:(((1+n):Nat):Int)>1202
        ·exact absurd h10 (by omega)
        ·have hN':N=k+1:=by rw[←hc];exact cntG_stop hz (by omega) (btw_f.2 (by rw[←hv];omega))
         exact(fin (1+n) q (by omega) (fun i hi=>by rw[hq i (by omega)];rw[gcE,if_pos h1,hN',show k+1-1-i=k-i by omega])).e [f_ (df h10)] [3]
       ·have h10:Ir (x+1):=by simp only[Ir,InR];omega
        exact hX.h 9 [f_ (df h9),q_ h10] [.old 0, .old 3] (show Ok X (demurrageref16_Grid_h0 (x+1) a1 a2 a3 a4 a5 a6 a7 a8 a9 a10 a11 (1+n) q)from ih (k+1) _ _ q (by omega) (by omega) (by omega) (by rw[←hc];exact(cntG_on hz (.inr (btw_t.2 (by rw[←hv];omega)))).symm) (fun i hi=>by rw[hq i hi,if_pos h1,show k+1-1-i=k-i by omega]))
     ·have h8:Ir (x+1):=by simp only[Ir,InR];omega
      exact hX.h 21 [n_ 7 (f_ (df h7)),f_ rf,q_ h8] [.old 0, .old 3] (show Ok X (demurrageref16_Grid_h0 (x+1) a1 a2 a3 a4 a5 a6 a7 a8 a9 a10 a11 (1+n) q)from ih (k+1) _ _ q (by omega) (by omega) (by omega) (by rw[←hc];exact(cntG_on hz (.inl (by omega))).symm) (fun i hi=>by rw[hq i hi,if_pos h1,show k+1-1-i=k-i by omega]))
    ·refine hX.go [t_ (bne_iff_ne.2 h4)] ?_
     by_cases h5:((n:Nat):Int)>1202
     ·exact absurd h5 (by omega)
     ·have hN':N=k:=by rw[←hc];exact cntG_no (by rw[←hv];exact h4)
      exact(fin n g (by omega) (fun i hi=>by rw[hg i (by omega)];rw[gcE,if_pos h1,if_pos h1,hN'])).e [f_ (df h5)] [1]
   ·have hv:mv a5 (x*a7) a10=st k:=by rw[hst];unfold stp;rw[if_neg (by rw[h1];decide),hx]
    have h2:Ir (x*a7):=by simp only[Ir,InR];omega
    refine hX.go [f_ h1,q_ h2,c_ [] (rMove a5 (x*a7) a10)] ?_
    by_cases h3:((mv a5 (x*a7) a10).2)=0
    ·obtain⟨q,h4⟩: ∃ q:Nat→Int, ∀ k,k<(n+1)→q k=if k<n then(g k)else((mv a5 (x*a7) a10).1):=⟨_,fun k _=>rfl⟩
     have hz:(st k).2=0:=by rw[←hv];exact h3
     have hq: ∀ i,i<k+1→q i=(st (i)).1:=fun i hi=>by
      rw[h4 i (by omega)]
      by_cases c:i<n
      ·rw[if_pos c,hg i (by omega),if_neg (by rw[h1];decide)]
      ·rw[if_neg c,hv,show i=k by omega]
     have h5:(n+1)*8≤140737488355328:=by omega
     refine hX.go [f_ (bne_eq_false_iff_eq.2 h3),f_ h1,q_ (show ∀ k,k<1→(fun i=>[I ((mv a5 (x*a7) a10).1)]) k=[[I ((mv a5 (x*a7) a10).1)]].getD k []from by intro k hk;match k,hk with|0,_=>rfl|k+1,hk=>omega),q_ (re 1),q_ (re n),q_ h5,q_ (show ∀ k,k<n+1→(fun i=>[I (q i)]) k=if k<n then(fun i=>[I (g i)]) k else(fun i=>[I ((mv a5 (x*a7) a10).1)]) (k-n)from fun k hk=>by
    have e0:=h4 k hk
    by_cases c:k<n
    ·rw[if_pos c]at e0⊢;simp only[e0]
    ·rw[if_neg c]at e0⊢;simp only[e0]),h_ [.row (fun i=>[I ((mv a5 (x*a7) a10).1)]), .row (fun i=>[I (q i)])]] ?_
     by_cases h6:x>0
     ·refine hX.go [n_ 5 (t_ (dt h6))] ?_
      by_cases h7:((mv a5 (x*a7) a10).1)≤a5
      ·refine hX.go [n_ 4 (t_ (dt h7)),t_ (dt h6),t_ (dt h7),t_ (dt h6),t_ rt] ?_
       by_cases h8:(((n+1):Nat):Int)>1202
       ·exact absurd h8 (by omega)
       ·have hN':N=k+1:=by rw[←hc];exact cntG_stop hz (by omega) (btw_f.2 (by rw[←hv];omega))
        exact(fin (n+1) q (by omega) (fun i hi=>by rw[hq i (by omega)];rw[gcE,if_neg (by rw[h1];decide)])).e [f_ (df h8)] [3]
      ·refine hX.go [n_ 4 (f_ (df h7)),t_ (dt h6),f_ (df h7),t_ (dt h6)] ?_
       by_cases h8:((mv a5 (x*a7) a10).1)≥a6
       ·refine hX.go [t_ (dt h8)] ?_
        by_cases h9:(((n+1):Nat):Int)>1202
        ·exact absurd h9 (by omega)
        ·have hN':N=k+1:=by rw[←hc];exact cntG_stop hz (by omega) (btw_f.2 (by rw[←hv];omega))
         exact(fin (n+1) q (by omega) (fun i hi=>by rw[hq i (by omega)];rw[gcE,if_neg (by rw[h1];decide)])).e [f_ (df h9)] [3]
       ·have h9:Ir (x+1):=by simp only[Ir,InR];omega
        exact hX.h 9 [f_ (df h8),q_ h9] [.old 0, .old 3] (show Ok X (demurrageref16_Grid_h0 (x+1) a1 a2 a3 a4 a5 a6 a7 a8 a9 a10 a11 (n+1) q)from ih (k+1) _ _ q (by omega) (by omega) (by omega) (by rw[←hc];exact(cntG_on hz (.inr (btw_t.2 (by rw[←hv];omega)))).symm) (fun i hi=>by rw[hq i hi,if_neg (by rw[h1];decide)]))
     ·have h7:Ir (x+1):=by simp only[Ir,InR];omega
      exact hX.h 21 [n_ 7 (f_ (df h6)),f_ rf,q_ h7] [.old 0, .old 3] (show Ok X (demurrageref16_Grid_h0 (x+1) a1 a2 a3 a4 a5 a6 a7 a8 a9 a10 a11 (n+1) q)from ih (k+1) _ _ q (by omega) (by omega) (by omega) (by rw[←hc];exact(cntG_on hz (.inl (by omega))).symm) (fun i hi=>by rw[hq i hi,if_neg (by rw[h1];decide)]))
    ·refine hX.go [t_ (bne_iff_ne.2 h3)] ?_
     by_cases h4:((n:Nat):Int)>1202
     ·exact absurd h4 (by omega)
     ·have hN':N=k:=by rw[←hc];exact cntG_no (by rw[←hv];exact h3)
      exact(fin n g (by omega) (fun i hi=>by rw[hg i (by omega)];rw[gcE,if_neg (by rw[h1];decide),if_neg (by rw[h1];decide)])).e [f_ (df h4)] [1]
  ·exact absurd h0 (by omega)
theorem rGrid (a1 a2 a3 a4 a5 a6 a7:Int) (a8 a9 a10:Bool) (a11:Int) (hs:chk a1 a2 a3 a4 a5 a6 a7 a11=0→a6-a5≤6200*a7):
  S 34 [.agg [I a1,I a2,I a3,I a4,I a5,I a6,I a7,B a8,B a9,B a10,I a11]] [] (.tup [.sl 0 (gcN a1 a2 a3 a4 a5 a6 a7 a8 a10 a11),I (chk a1 a2 a3 a4 a5 a6 a7 a11)]) [ro (gcN a1 a2 a3 a4 a5 a6 a7 a8 a10 a11) (gcV a5 a6 a7 a8 a10)]:=by
 refine SCall.st fun X hX=> ?_
 refine hX.go [c_ [] (rCheck a1 a2 a3 a4 a5 a6 a7 a8 a9 a10 a11)] ?_
 by_cases h0:(chk a1 a2 a3 a4 a5 a6 a7 a11)=0
 ·have hL:=chk_loan h0
  have hN:=gN_le (back:=a8) (eom:=a10) hL (hs h0)
  rw[show gcN a1 a2 a3 a4 a5 a6 a7 a8 a10 a11=gN a5 a6 a7 a8 a10 from if_pos h0,h0]at hX
  exact hX.h 13 [f_ (bne_eq_false_iff_eq.2 h0)] [.old 0, .nil 1] (show Ok X (demurrageref16_Grid_h0 0 a1 a2 a3 a4 a5 a6 a7 a8 a9 a10 a11 0 (fun _=>default))from rg_loop _ rfl _ rfl (by omega) ⟨hL.m1,hL.m2⟩ hX 1300 0 0 _ _ rfl rfl rfl rfl (fun i hi=>absurd hi (Nat.not_lt_zero _)))
 ·rw[show gcN a1 a2 a3 a4 a5 a6 a7 a8 a10 a11=0 from if_neg h0]at hX
  exact(IsFin.nilsl hX).e [t_ (bne_iff_ne.2 h0)]
end Go.Proofs.YtgojmodiaffcbaaGreatDoor
