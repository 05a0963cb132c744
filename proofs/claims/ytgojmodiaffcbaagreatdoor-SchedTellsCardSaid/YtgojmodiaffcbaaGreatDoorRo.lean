/-
A loan's days, as the reference finds them (chapter 16).
-/
import Derived.Test.YtgojmodiaffcbaaGreatDoorDo
import Derived.Test.YtgojmodiaffcbaaGreatDoorGe
import Derived.Test.YtgojmodiaffcbaaGreatDoorProg
import Derived.KernelRfl
set_option linter.unusedSectionVars false
set_option linter.unusedSimpArgs false
set_option linter.unusedVariables false
set_option maxRecDepth 100000
namespace Go.Proofs.YtgojmodiaffcbaaGreatDoor
open Go Go.Sx
variable [EnvT]
noncomputable def demurrageref16_Of_h0 (b1:Bool) (x2:Int) (x3:Int) (x4:Int) (x5:Int) (x6:Int) (x7:Int) (x8:Int) (x9:Int) (b10:Bool) (b11:Bool) (b12:Bool) (x13:Int) (n1_:Nat) (g1011:Nat→Int) (n2_:Nat) (g1021:Nat→Int):SC:=
 ⟨[⟨31,slo 104 [(1, .ptr 0 0),(4, .sl 1 n1_),(6, .sl 2 n2_),(7,B b1),(8,I x2)],[.code (bodyAt Tryz.f31 [1,1,1,1,1,0,1,0,0]), .inLoop (bodyAt Tryz.f31 [1,1,1,1,1,0,1,0,0]), .inBlock 0, .code (bodyAt Tryz.f31 [1,1,1,1,1,1])],{}⟩],[some (.box true [I x3,I x4,I x5,I x6,I x7,I x8,I x9,B b10,B b11,B b12,I x13]),ro n1_ g1011,ro n2_ g1021]⟩
theorem rof_loop {X:Cx} {a1 a2 a3 a4 a5 a6 a7:Int} {a8 a9 a10:Bool} {a11:Int} {N o m:Nat} {G:Nat→Int} {res:SV} {new:List (Option Vw)} (hX:IsFin X Tryz.prog GL 31 [] res new) (hN:N≤1000) (hom:o+m≤N) (hbt: ∀ i,i<N→(btw a5 a6 (G i)=true↔o≤i∧i<o+m))
  (K: ∀ (st:Bool) (x:Int) (n:Nat) (c:Nat→Int),¬x<(N:Int)→st=(!hasB G (if a8=true then a5 else a6) N)→n=m→(∀ k,k<n→c k=G (o+k))→Ok X (demurrageref16_Of_h0 st x a1 a2 a3 a4 a5 a6 a7 a8 a9 a10 a11 N G n c)):
  ∀ (f j:Nat) (st:Bool) (x:Int) (n:Nat) (c0:Nat→Int),x=(j:Int)→N=j+f→st=(!hasB G (if a8=true then a5 else a6) j)→n=cB o m j→(∀ k,k<n→c0 k=G (o+k))→
    Ok X (demurrageref16_Of_h0 st x a1 a2 a3 a4 a5 a6 a7 a8 a9 a10 a11 N G n c0):=by
 intro f
 induction f with
 |zero=>
  intro j st x n c0 hx hf hst hn hc
  have:N=j:=hf
  subst this
  exact K st x n c0 (by omega) hst (by rw[hn,cB_all hom]) hc
 |succ f ih=>
  intro j st x n c0 hx hf hst hn hc
  have hcl:=cB_le o m j
  have h0:x<((N:Nat):Int):=by omega
  have h1:(0:Int)≤x∧x<((N:Nat):Int):=by omega
  have e2:x.toNat=j:=by omega
  have hv:=hbt j (by omega)
  refine hX.go [t_ (dt h0)] ?_
  by_cases h2:(G x.toNat)>a5
  ·refine hX.go [q_ h1,q_ (re N),q_ h1,d_ 14,n_ 3 (t_ (dt h2)),q_ h1,q_ (re N),t_ (dt h2),q_ h1,n_ 4 (t_ (dt h2))] ?_
   by_cases h3:(G x.toNat)<a6
   ·obtain⟨q,h4⟩: ∃ q:Nat→Int, ∀ k,k<(n+1)→q k=if k<n then(c0 k)else(G x.toNat):=⟨_,fun k _=>rfl⟩
    have h5:(n+1)*8≤140737488355328:=by omega
    refine hX.go [t_ (dt h3),q_ h1,q_ (re N),q_ h1,q_ (show ∀ k,k<1→(fun i=>[I (G x.toNat)]) k=[[I (G x.toNat)]].getD k []from by intro k hk;match k,hk with|0,_=>rfl|k+1,hk=>omega),q_ (re 1),q_ (re n),q_ h5,q_ (show ∀ k,k<n+1→(fun i=>[I (q i)]) k=if k<n then(fun i=>[I (c0 i)]) k else(fun i=>[I (G x.toNat)]) (k-n)from fun k hk=>by
   have e0:=h4 k hk
   by_cases c:k<n
   ·rw[if_pos c]at e0⊢;simp only[e0]
   ·rw[if_neg c]at e0⊢;simp only[e0]),h_ [.row (fun i=>[I (G x.toNat)]), .row (fun i=>[I (q i)])]] ?_
    rcases bcase a8 with h6|h6
    ·have hF:(if a8=true then a5 else a6)=a5:=if_pos h6
     by_cases h7:(G x.toNat)=a5
     ·have h8:Ir (x+1):=by simp only[Ir,InR];omega
      exact hX.h 16 [d_ 22,n_ 3 (t_ h6),q_ h1,q_ (re N),t_ h6,q_ h1,n_ 4 (t_ h6),n_ 6 (t_ (beq_iff_eq.2 h7)),t_ rt,q_ h8] [.old 0, .old 1, .old 4] (show Ok X (demurrageref16_Of_h0 false (x+1) a1 a2 a3 a4 a5 a6 a7 a8 a9 a10 a11 N G (n+1) q)from ih (j+1) _ _ _ _ (by omega) (by omega) (by rw[hasB];simp[hF,←e2,h7]) (by rw[(cB_on (hv.1 (btw_t.2 ⟨by rw[←e2];exact h2,by rw[←e2];exact h3⟩))).1,hn]) (fun k hk=>by
       rw[h4 k hk]
       by_cases d:k<n
       ·rw[if_pos d];exact hc k d
       ·rw[if_neg d,e2,show o+k=j by have:=(cB_on (hv.1 (btw_t.2 ⟨by rw[←e2];exact h2,by rw[←e2];exact h3⟩))).2;omega]))
     ·have h8:Ir (x+1):=by simp only[Ir,InR];omega
      exact hX.h 14 [d_ 22,n_ 3 (t_ h6),q_ h1,q_ (re N),t_ h6,q_ h1,n_ 4 (t_ h6),n_ 4 (f_ (beq_eq_false_iff_ne.2 h7)),n_ 7 (f_ (nf h6)),f_ (beq_eq_false_iff_ne.2 h7),f_ (nf h6),f_ (beq_eq_false_iff_ne.2 h7),f_ rf,q_ h8] [.old 0, .old 1, .old 4] (show Ok X (demurrageref16_Of_h0 st (x+1) a1 a2 a3 a4 a5 a6 a7 a8 a9 a10 a11 N G (n+1) q)from ih (j+1) _ _ _ _ (by omega) (by omega) (by rw[hasB,Bool.not_or,←hst];simp[hF,←e2,h7]) (by rw[(cB_on (hv.1 (btw_t.2 ⟨by rw[←e2];exact h2,by rw[←e2];exact h3⟩))).1,hn]) (fun k hk=>by
       rw[h4 k hk]
       by_cases d:k<n
       ·rw[if_pos d];exact hc k d
       ·rw[if_neg d,e2,show o+k=j by have:=(cB_on (hv.1 (btw_t.2 ⟨by rw[←e2];exact h2,by rw[←e2];exact h3⟩))).2;omega]))
    ·have hF:(if a8=true then a5 else a6)=a6:=if_neg (by rw[h6];decide)
     refine hX.go [d_ 22,n_ 8 (f_ h6),n_ 4 (f_ rf),n_ 3 (t_ (nt h6)),q_ h1,q_ (re N),t_ (nt h6),q_ h1,n_ 3 (t_ (nt h6)),f_ rf,t_ (nt h6),f_ rf] ?_
     by_cases h7:(G x.toNat)=a6
     ·have h8:Ir (x+1):=by simp only[Ir,InR];omega
      exact hX.h 11 [t_ (beq_iff_eq.2 h7),q_ h8] [.old 0, .old 1, .old 4] (show Ok X (demurrageref16_Of_h0 false (x+1) a1 a2 a3 a4 a5 a6 a7 a8 a9 a10 a11 N G (n+1) q)from ih (j+1) _ _ _ _ (by omega) (by omega) (by rw[hasB];simp[hF,←e2,h7]) (by rw[(cB_on (hv.1 (btw_t.2 ⟨by rw[←e2];exact h2,by rw[←e2];exact h3⟩))).1,hn]) (fun k hk=>by
       rw[h4 k hk]
       by_cases d:k<n
       ·rw[if_pos d];exact hc k d
       ·rw[if_neg d,e2,show o+k=j by have:=(cB_on (hv.1 (btw_t.2 ⟨by rw[←e2];exact h2,by rw[←e2];exact h3⟩))).2;omega]))
     ·have h8:Ir (x+1):=by simp only[Ir,InR];omega
      exact hX.h 9 [f_ (beq_eq_false_iff_ne.2 h7),q_ h8] [.old 0, .old 1, .old 4] (show Ok X (demurrageref16_Of_h0 st (x+1) a1 a2 a3 a4 a5 a6 a7 a8 a9 a10 a11 N G (n+1) q)from ih (j+1) _ _ _ _ (by omega) (by omega) (by rw[hasB,Bool.not_or,←hst];simp[hF,←e2,h7]) (by rw[(cB_on (hv.1 (btw_t.2 ⟨by rw[←e2];exact h2,by rw[←e2];exact h3⟩))).1,hn]) (fun k hk=>by
       rw[h4 k hk]
       by_cases d:k<n
       ·rw[if_pos d];exact hc k d
       ·rw[if_neg d,e2,show o+k=j by have:=(cB_on (hv.1 (btw_t.2 ⟨by rw[←e2];exact h2,by rw[←e2];exact h3⟩))).2;omega]))
   ·refine hX.go [f_ (df h3)] ?_
    rcases bcase a8 with h4|h4
    ·have hF:(if a8=true then a5 else a6)=a5:=if_pos h4
     by_cases h5:(G x.toNat)=a5
     ·have h6:Ir (x+1):=by simp only[Ir,InR];omega
      exact hX.h 16 [d_ 22,n_ 3 (t_ h4),q_ h1,q_ (re N),t_ h4,q_ h1,n_ 4 (t_ h4),n_ 6 (t_ (beq_iff_eq.2 h5)),t_ rt,q_ h6] (oldM 3) (show Ok X (demurrageref16_Of_h0 false (x+1) a1 a2 a3 a4 a5 a6 a7 a8 a9 a10 a11 N G n c0)from ih (j+1) _ _ _ _ (by omega) (by omega) (by rw[hasB];simp[hF,←e2,h5]) (by rw[cB_off (fun z=>by have:=btw_t.1 (hv.2 z);rw[←e2]at this;omega),hn]) (hc))
     ·have h6:Ir (x+1):=by simp only[Ir,InR];omega
      exact hX.h 14 [d_ 22,n_ 3 (t_ h4),q_ h1,q_ (re N),t_ h4,q_ h1,n_ 4 (t_ h4),n_ 4 (f_ (beq_eq_false_iff_ne.2 h5)),n_ 7 (f_ (nf h4)),f_ (beq_eq_false_iff_ne.2 h5),f_ (nf h4),f_ (beq_eq_false_iff_ne.2 h5),f_ rf,q_ h6] (oldM 3) (show Ok X (demurrageref16_Of_h0 st (x+1) a1 a2 a3 a4 a5 a6 a7 a8 a9 a10 a11 N G n c0)from ih (j+1) _ _ _ _ (by omega) (by omega) (by rw[hasB,Bool.not_or,←hst];simp[hF,←e2,h5]) (by rw[cB_off (fun z=>by have:=btw_t.1 (hv.2 z);rw[←e2]at this;omega),hn]) (hc))
    ·have hF:(if a8=true then a5 else a6)=a6:=if_neg (by rw[h4];decide)
     refine hX.go [d_ 22,n_ 8 (f_ h4),n_ 4 (f_ rf),n_ 3 (t_ (nt h4)),q_ h1,q_ (re N),t_ (nt h4),q_ h1,n_ 3 (t_ (nt h4)),f_ rf,t_ (nt h4),f_ rf] ?_
     by_cases h5:(G x.toNat)=a6
     ·have h6:Ir (x+1):=by simp only[Ir,InR];omega
      exact hX.h 11 [t_ (beq_iff_eq.2 h5),q_ h6] (oldM 3) (show Ok X (demurrageref16_Of_h0 false (x+1) a1 a2 a3 a4 a5 a6 a7 a8 a9 a10 a11 N G n c0)from ih (j+1) _ _ _ _ (by omega) (by omega) (by rw[hasB];simp[hF,←e2,h5]) (by rw[cB_off (fun z=>by have:=btw_t.1 (hv.2 z);rw[←e2]at this;omega),hn]) (hc))
     ·have h6:Ir (x+1):=by simp only[Ir,InR];omega
      exact hX.h 9 [f_ (beq_eq_false_iff_ne.2 h5),q_ h6] (oldM 3) (show Ok X (demurrageref16_Of_h0 st (x+1) a1 a2 a3 a4 a5 a6 a7 a8 a9 a10 a11 N G n c0)from ih (j+1) _ _ _ _ (by omega) (by omega) (by rw[hasB,Bool.not_or,←hst];simp[hF,←e2,h5]) (by rw[cB_off (fun z=>by have:=btw_t.1 (hv.2 z);rw[←e2]at this;omega),hn]) (hc))
  ·refine hX.go [q_ h1,q_ (re N),q_ h1,d_ 14,n_ 8 (f_ (df h2)),f_ rf] ?_
   rcases bcase a8 with h3|h3
   ·have hF:(if a8=true then a5 else a6)=a5:=if_pos h3
    by_cases h4:(G x.toNat)=a5
    ·have h5:Ir (x+1):=by simp only[Ir,InR];omega
     exact hX.h 16 [d_ 22,n_ 3 (t_ h3),q_ h1,q_ (re N),t_ h3,q_ h1,n_ 4 (t_ h3),n_ 6 (t_ (beq_iff_eq.2 h4)),t_ rt,q_ h5] (oldM 3) (show Ok X (demurrageref16_Of_h0 false (x+1) a1 a2 a3 a4 a5 a6 a7 a8 a9 a10 a11 N G n c0)from ih (j+1) _ _ _ _ (by omega) (by omega) (by rw[hasB];simp[hF,←e2,h4]) (by rw[cB_off (fun z=>by have:=btw_t.1 (hv.2 z);rw[←e2]at this;omega),hn]) (hc))
    ·have h5:Ir (x+1):=by simp only[Ir,InR];omega
     exact hX.h 14 [d_ 22,n_ 3 (t_ h3),q_ h1,q_ (re N),t_ h3,q_ h1,n_ 4 (t_ h3),n_ 4 (f_ (beq_eq_false_iff_ne.2 h4)),n_ 7 (f_ (nf h3)),f_ (beq_eq_false_iff_ne.2 h4),f_ (nf h3),f_ (beq_eq_false_iff_ne.2 h4),f_ rf,q_ h5] (oldM 3) (show Ok X (demurrageref16_Of_h0 st (x+1) a1 a2 a3 a4 a5 a6 a7 a8 a9 a10 a11 N G n c0)from ih (j+1) _ _ _ _ (by omega) (by omega) (by rw[hasB,Bool.not_or,←hst];simp[hF,←e2,h4]) (by rw[cB_off (fun z=>by have:=btw_t.1 (hv.2 z);rw[←e2]at this;omega),hn]) (hc))
   ·have hF:(if a8=true then a5 else a6)=a6:=if_neg (by rw[h3];decide)
    refine hX.go [d_ 22,n_ 8 (f_ h3),n_ 4 (f_ rf),n_ 3 (t_ (nt h3)),q_ h1,q_ (re N),t_ (nt h3),q_ h1,n_ 3 (t_ (nt h3)),f_ rf,t_ (nt h3),f_ rf] ?_
    by_cases h4:(G x.toNat)=a6
    ·have h5:Ir (x+1):=by simp only[Ir,InR];omega
     exact hX.h 11 [t_ (beq_iff_eq.2 h4),q_ h5] (oldM 3) (show Ok X (demurrageref16_Of_h0 false (x+1) a1 a2 a3 a4 a5 a6 a7 a8 a9 a10 a11 N G n c0)from ih (j+1) _ _ _ _ (by omega) (by omega) (by rw[hasB];simp[hF,←e2,h4]) (by rw[cB_off (fun z=>by have:=btw_t.1 (hv.2 z);rw[←e2]at this;omega),hn]) (hc))
    ·have h5:Ir (x+1):=by simp only[Ir,InR];omega
     exact hX.h 9 [f_ (beq_eq_false_iff_ne.2 h4),q_ h5] (oldM 3) (show Ok X (demurrageref16_Of_h0 st (x+1) a1 a2 a3 a4 a5 a6 a7 a8 a9 a10 a11 N G n c0)from ih (j+1) _ _ _ _ (by omega) (by omega) (by rw[hasB,Bool.not_or,←hst];simp[hF,←e2,h4]) (by rw[cB_off (fun z=>by have:=btw_t.1 (hv.2 z);rw[←e2]at this;omega),hn]) (hc))
theorem dO_eq {s e mo:Int} {long back eom:Bool} (h:dM s e mo long back eom=mN s e mo back eom):dO s e mo long back eom=oN s e mo back eom:=by unfold dO oN;rw[h]
theorem rof_end {X:Cx} {a1 a2 a3 a4 a5 a6 a7:Int} {a8 a9 a10:Bool} {a11:Int} {n:Nat} {x:Int} {st:Bool} {c0:Nat→Int} (hL:Loan a5 a6 a7) (hs:a6-a5≤6200*a7)
  (hX:IsFin X Tryz.prog GL 31 [] (.tup [.sl 0 (dM a5 a6 a7 a9 a8 a10+2),I 0]) [ro (dM a5 a6 a7 a9 a8 a10+2) (dV a5 a6 a7 a9 a8 a10)]) (h0: ¬x<(gN a5 a6 a7 a8 a10:Int))
  (hst':st=(!hasB (gcV a5 a6 a7 a8 a10) (if a8=true then a5 else a6) (gN a5 a6 a7 a8 a10))) (hm:n=mN a5 a6 a7 a8 a10)
  (hg: ∀ i,i<n→c0 i=gcV a5 a6 a7 a8 a10 (oN a5 a6 a7 a8 a10+i)):Ok X (demurrageref16_Of_h0 st x a1 a2 a3 a4 a5 a6 a7 a8 a9 a10 a11 (gN a5 a6 a7 a8 a10) (gcV a5 a6 a7 a8 a10) n c0):=by
 have hN:=gN_le (back:=a8) (eom:=a10) hL hs
 have hmN:=mN_le (back:=a8) (eom:=a10) hL hs
 have fin: ∀ (L:Nat) (Q:Nat→Int),L=dM a5 a6 a7 a9 a8 a10+2→(∀ i,i<L→Q i=dV a5 a6 a7 a9 a8 a10 i)→IsFin X Tryz.prog GL 31 [] (.tup [.sl 0 L,I 0]) [ro L Q]:=fun L Q hl hq=>by
  subst hl
  refine IsFin.same hX ⟨⟨rfl,rfl,rfl,rfl,fun i hi=> ?_⟩,trivial⟩
  show[I (Q i)]=_;rw[hq i hi]
 refine hX.go [f_ (df h0)] ?_
 rcases bcase a9 with h1|h1
 ·refine hX.go [t_ h1,t_ h1] ?_
  rcases bcase st with h2|h2
  ·refine hX.go [n_ 4 (t_ h2)] ?_
   by_cases h3:((n:Nat):Int)>0
   ·refine hX.go [t_ (dt h3)] ?_
    rcases bcase a8 with h4|h4
    ·have h5:(0:Int)≤1∧(1:Int)≤((n:Nat):Int):=by omega
     obtain⟨q,h6⟩: ∃ q:Nat→Int, ∀ k,k<(1+((((n:Nat):Int).toNat)-1))→q k=if k<1 then a5 else(c0 ((k-1)+1)):=⟨_,fun k _=>rfl⟩
     have h7:(1+((((n:Nat):Int).toNat)-1))*8≤140737488355328:=by omega
     obtain⟨Q,h8⟩: ∃ Q:Nat→Int, ∀ k,k<((1+((((n:Nat):Int).toNat)-1))+1)→Q k=if k<(1+((((n:Nat):Int).toNat)-1))then(q k)else a6:=⟨_,fun k _=>rfl⟩
     have h9:((1+((((n:Nat):Int).toNat)-1))+1)*8≤140737488355328:=by omega
     refine hX.go [t_ h4,q_ (re n),q_ (show(0:Int)≤((n:Nat):Int)∧((n:Nat):Int)≤((n:Nat):Int)from by first|decide|omega|(constructor<;>omega)),q_ h5,q_ (show ∀ k,k<1→(fun i=>[I a5]) k=[[I a5]].getD k []from by intro k hk;match k,hk with|0,_=>rfl|k+1,hk=>omega),q_ (show((((n:Nat):Int).toNat)-1)=((((n:Nat):Int).toNat)-1)from rfl),q_ (re 1),q_ h7,q_ (show ∀ k,k<1+((((n:Nat):Int).toNat)-1)→(fun i=>[I (q i)]) k=if k<1 then(fun i=>[I a5]) k else(fun i=>[I (c0 (i+1))]) (k-1)from fun k hk=>by
  have e0:=h6 k hk
  by_cases c:k<1
  ·rw[if_pos c]at e0⊢;simp only[e0]
  ·rw[if_neg c]at e0⊢;simp only[e0]),q_ (show ∀ k,k<1→(fun i=>[I a6]) k=[[I a6]].getD k []from by intro k hk;match k,hk with|0,_=>rfl|k+1,hk=>omega),q_ (re 1),q_ (show(1+((((n:Nat):Int).toNat)-1))=(1+((((n:Nat):Int).toNat)-1))from rfl),q_ h9,q_ (show ∀ k,k<(1+((((n:Nat):Int).toNat)-1))+1→(fun i=>[I (Q i)]) k=if k<(1+((((n:Nat):Int).toNat)-1))then(fun i=>[I (q i)]) k else(fun i=>[I a6]) (k-(1+((((n:Nat):Int).toNat)-1)))from fun k hk=>by
  have e0:=h8 k hk
  by_cases c:k<(1+((((n:Nat):Int).toNat)-1))
  ·rw[if_pos c]at e0⊢;simp only[e0]
  ·rw[if_neg c]at e0⊢;simp only[e0]),d_ 8,h_ [.row (fun i=>[I a5]), .row (fun i=>[I (q i)]), .row (fun i=>[I a6]), .row (fun i=>[I (Q i)])]] ?_
     by_cases h10:((((1+((((n:Nat):Int).toNat)-1))+1):Nat):Int)>1201
     ·exact absurd h10 (by omega)
     ·have e3:dM a5 a6 a7 a9 a8 a10=mN a5 a6 a7 a8 a10-1:=(by unfold dM;rw[if_pos ⟨h1,by rw[hst']at h2;simpa using h2⟩])
      have e1:dO a5 a6 a7 a9 a8 a10=gN a5 a6 a7 a8 a10-1-dM a5 a6 a7 a9 a8 a10:=if_pos h4
      have e2:oN a5 a6 a7 a8 a10=gN a5 a6 a7 a8 a10-1-mN a5 a6 a7 a8 a10:=if_pos h4
      exact(fin (((1+((((n:Nat):Int).toNat)-1))+1)) Q (by omega) (fun i hi=>by
       rw[h8 i (by omega)];unfold dV catV
       by_cases c1:i=0
       ·rw[if_pos (by omega),h6 i (by omega),if_pos (by omega),if_pos c1]
       ·rw[if_neg c1]
        by_cases c2:i<dM a5 a6 a7 a9 a8 a10+1
        ·rw[if_pos (by omega),h6 i (by omega),if_neg (by omega),if_pos c2,hg _ (by omega)];congr 1;omega
        ·rw[if_neg (by omega),if_neg c2])).e [f_ (df h10)] [7]
    ·have h5:Ir (((n:Nat):Int)-1):=by simp only[Ir,InR];omega
     have h6:(0:Int)≤(((n:Nat):Int)-1)∧(((n:Nat):Int)-1)≤((n:Nat):Int):=by omega
     have h7:(0:Int)≤0∧(0:Int)≤(((n:Nat):Int)-1):=by omega
     obtain⟨q,h8⟩: ∃ q:Nat→Int, ∀ k,k<(1+(((((n:Nat):Int)-1).toNat)-0))→q k=if k<1 then a5 else(c0 ((k-1)+0)):=⟨_,fun k _=>rfl⟩
     have h9:(1+(((((n:Nat):Int)-1).toNat)-0))*8≤140737488355328:=by omega
     obtain⟨Q,h10⟩: ∃ Q:Nat→Int, ∀ k,k<((1+(((((n:Nat):Int)-1).toNat)-0))+1)→Q k=if k<(1+(((((n:Nat):Int)-1).toNat)-0))then(q k)else a6:=⟨_,fun k _=>rfl⟩
     have h11:((1+(((((n:Nat):Int)-1).toNat)-0))+1)*8≤140737488355328:=by omega
     refine hX.go [f_ h4,q_ h5,q_ (re n),q_ h6,q_ h7,q_ (show ∀ k,k<1→(fun i=>[I a5]) k=[[I a5]].getD k []from by intro k hk;match k,hk with|0,_=>rfl|k+1,hk=>omega),q_ (show(((((n:Nat):Int)-1).toNat)-0)=(((((n:Nat):Int)-1).toNat)-0)from rfl),q_ (re 1),q_ h9,q_ (show ∀ k,k<1+(((((n:Nat):Int)-1).toNat)-0)→(fun i=>[I (q i)]) k=if k<1 then(fun i=>[I a5]) k else(fun i=>[I (c0 (i+0))]) (k-1)from fun k hk=>by
  have e0:=h8 k hk
  by_cases c:k<1
  ·rw[if_pos c]at e0⊢;simp only[e0]
  ·rw[if_neg c]at e0⊢;simp only[e0]),q_ (show ∀ k,k<1→(fun i=>[I a6]) k=[[I a6]].getD k []from by intro k hk;match k,hk with|0,_=>rfl|k+1,hk=>omega),q_ (re 1),q_ (show(1+(((((n:Nat):Int)-1).toNat)-0))=(1+(((((n:Nat):Int)-1).toNat)-0))from rfl),q_ h11,q_ (show ∀ k,k<(1+(((((n:Nat):Int)-1).toNat)-0))+1→(fun i=>[I (Q i)]) k=if k<(1+(((((n:Nat):Int)-1).toNat)-0))then(fun i=>[I (q i)]) k else(fun i=>[I a6]) (k-(1+(((((n:Nat):Int)-1).toNat)-0)))from fun k hk=>by
  have e0:=h10 k hk
  by_cases c:k<(1+(((((n:Nat):Int)-1).toNat)-0))
  ·rw[if_pos c]at e0⊢;simp only[e0]
  ·rw[if_neg c]at e0⊢;simp only[e0]),d_ 8,h_ [.row (fun i=>[I a5]), .row (fun i=>[I (q i)]), .row (fun i=>[I a6]), .row (fun i=>[I (Q i)])]] ?_
     by_cases h12:((((1+(((((n:Nat):Int)-1).toNat)-0))+1):Nat):Int)>1201
     ·exact absurd h12 (by omega)
     ·have e3:dM a5 a6 a7 a9 a8 a10=mN a5 a6 a7 a8 a10-1:=(by unfold dM;rw[if_pos ⟨h1,by rw[hst']at h2;simpa using h2⟩])
      have e1:dO a5 a6 a7 a9 a8 a10=1:=if_neg (by rw[h4];decide)
      have e2:oN a5 a6 a7 a8 a10=1:=if_neg (by rw[h4];decide)
      exact(fin (((1+(((((n:Nat):Int)-1).toNat)-0))+1)) Q (by omega) (fun i hi=>by
       rw[h10 i (by omega)];unfold dV catV
       by_cases c1:i=0
       ·rw[if_pos (by omega),h8 i (by omega),if_pos (by omega),if_pos c1]
       ·rw[if_neg c1]
        by_cases c2:i<dM a5 a6 a7 a9 a8 a10+1
        ·rw[if_pos (by omega),h8 i (by omega),if_neg (by omega),if_pos c2,hg _ (by omega)];congr 1;omega
        ·rw[if_neg (by omega),if_neg c2])).e [f_ (df h12)] [7]
   ·obtain⟨q,h4⟩: ∃ q:Nat→Int, ∀ k,k<(1+n)→q k=if k<1 then a5 else(c0 (k-1)):=⟨_,fun k _=>rfl⟩
    have h5:(1+n)*8≤140737488355328:=by omega
    obtain⟨Q,h6⟩: ∃ Q:Nat→Int, ∀ k,k<((1+n)+1)→Q k=if k<(1+n)then(q k)else a6:=⟨_,fun k _=>rfl⟩
    have h7:((1+n)+1)*8≤140737488355328:=by omega
    refine hX.go [f_ (df h3),q_ (show ∀ k,k<1→(fun i=>[I a5]) k=[[I a5]].getD k []from by intro k hk;match k,hk with|0,_=>rfl|k+1,hk=>omega),q_ (re n),q_ (re 1),q_ h5,q_ (show ∀ k,k<1+n→(fun i=>[I (q i)]) k=if k<1 then(fun i=>[I a5]) k else(fun i=>[I (c0 i)]) (k-1)from fun k hk=>by
  have e0:=h4 k hk
  by_cases c:k<1
  ·rw[if_pos c]at e0⊢;simp only[e0]
  ·rw[if_neg c]at e0⊢;simp only[e0]),q_ (show ∀ k,k<1→(fun i=>[I a6]) k=[[I a6]].getD k []from by intro k hk;match k,hk with|0,_=>rfl|k+1,hk=>omega),q_ (re 1),q_ (show(1+n)=(1+n)from rfl),q_ h7,q_ (show ∀ k,k<(1+n)+1→(fun i=>[I (Q i)]) k=if k<(1+n)then(fun i=>[I (q i)]) k else(fun i=>[I a6]) (k-(1+n))from fun k hk=>by
  have e0:=h6 k hk
  by_cases c:k<(1+n)
  ·rw[if_pos c]at e0⊢;simp only[e0]
  ·rw[if_neg c]at e0⊢;simp only[e0]),d_ 8,h_ [.row (fun i=>[I a5]), .row (fun i=>[I (q i)]), .row (fun i=>[I a6]), .row (fun i=>[I (Q i)])]] ?_
    by_cases h8:((((1+n)+1):Nat):Int)>1201
    ·exact absurd h8 (by omega)
    ·have e3:dM a5 a6 a7 a9 a8 a10=0:=(by unfold dM;(repeat' split)<;>omega)
     have e1:=dO_eq (s:=a5) (e:=a6) (mo:=a7) (long:=a9) (back:=a8) (eom:=a10) (by omega)
     exact(fin (((1+n)+1)) Q (by omega) (fun i hi=>by
      rw[h6 i (by omega)];unfold dV catV
      by_cases c1:i=0
      ·rw[if_pos (by omega),h4 i (by omega),if_pos (by omega),if_pos c1]
      ·rw[if_neg c1]
       by_cases c2:i<dM a5 a6 a7 a9 a8 a10+1
       ·rw[if_pos (by omega),h4 i (by omega),if_neg (by omega),if_pos c2,hg _ (by omega)];congr 1;omega
       ·rw[if_neg (by omega),if_neg c2])).e [f_ (df h8)] [6]
  ·obtain⟨q,h3⟩: ∃ q:Nat→Int, ∀ k,k<(1+n)→q k=if k<1 then a5 else(c0 (k-1)):=⟨_,fun k _=>rfl⟩
   have h4:(1+n)*8≤140737488355328:=by omega
   obtain⟨Q,h5⟩: ∃ Q:Nat→Int, ∀ k,k<((1+n)+1)→Q k=if k<(1+n)then(q k)else a6:=⟨_,fun k _=>rfl⟩
   have h6:((1+n)+1)*8≤140737488355328:=by omega
   refine hX.go [n_ 4 (f_ h2),f_ rf,q_ (show ∀ k,k<1→(fun i=>[I a5]) k=[[I a5]].getD k []from by intro k hk;match k,hk with|0,_=>rfl|k+1,hk=>omega),q_ (re n),q_ (re 1),q_ h4,q_ (show ∀ k,k<1+n→(fun i=>[I (q i)]) k=if k<1 then(fun i=>[I a5]) k else(fun i=>[I (c0 i)]) (k-1)from fun k hk=>by
  have e0:=h3 k hk
  by_cases c:k<1
  ·rw[if_pos c]at e0⊢;simp only[e0]
  ·rw[if_neg c]at e0⊢;simp only[e0]),q_ (show ∀ k,k<1→(fun i=>[I a6]) k=[[I a6]].getD k []from by intro k hk;match k,hk with|0,_=>rfl|k+1,hk=>omega),q_ (re 1),q_ (show(1+n)=(1+n)from rfl),q_ h6,q_ (show ∀ k,k<(1+n)+1→(fun i=>[I (Q i)]) k=if k<(1+n)then(fun i=>[I (q i)]) k else(fun i=>[I a6]) (k-(1+n))from fun k hk=>by
  have e0:=h5 k hk
  by_cases c:k<(1+n)
  ·rw[if_pos c]at e0⊢;simp only[e0]
  ·rw[if_neg c]at e0⊢;simp only[e0]),d_ 8,h_ [.row (fun i=>[I a5]), .row (fun i=>[I (q i)]), .row (fun i=>[I a6]), .row (fun i=>[I (Q i)])]] ?_
   by_cases h7:((((1+n)+1):Nat):Int)>1201
   ·exact absurd h7 (by omega)
   ·have e3:dM a5 a6 a7 a9 a8 a10=mN a5 a6 a7 a8 a10:=(by unfold dM;rw[if_neg (fun z=>by rw[hst',z.2]at h2;cases h2)])
    have e1:=dO_eq (s:=a5) (e:=a6) (mo:=a7) (long:=a9) (back:=a8) (eom:=a10) (by omega)
    exact(fin (((1+n)+1)) Q (by omega) (fun i hi=>by
     rw[h5 i (by omega)];unfold dV catV
     by_cases c1:i=0
     ·rw[if_pos (by omega),h3 i (by omega),if_pos (by omega),if_pos c1]
     ·rw[if_neg c1]
      by_cases c2:i<dM a5 a6 a7 a9 a8 a10+1
      ·rw[if_pos (by omega),h3 i (by omega),if_neg (by omega),if_pos c2,hg _ (by omega)];congr 1;omega
      ·rw[if_neg (by omega),if_neg c2])).e [f_ (df h7)] [6]
 ·obtain⟨q,h2⟩: ∃ q:Nat→Int, ∀ k,k<(1+n)→q k=if k<1 then a5 else(c0 (k-1)):=⟨_,fun k _=>rfl⟩
  have h3:(1+n)*8≤140737488355328:=by omega
  obtain⟨Q,h4⟩: ∃ Q:Nat→Int, ∀ k,k<((1+n)+1)→Q k=if k<(1+n)then(q k)else a6:=⟨_,fun k _=>rfl⟩
  have h5:((1+n)+1)*8≤140737488355328:=by omega
  refine hX.go [f_ h1,f_ h1,n_ 5 (f_ rf),q_ (show ∀ k,k<1→(fun i=>[I a5]) k=[[I a5]].getD k []from by intro k hk;match k,hk with|0,_=>rfl|k+1,hk=>omega),q_ (re n),q_ (re 1),q_ h3,q_ (show ∀ k,k<1+n→(fun i=>[I (q i)]) k=if k<1 then(fun i=>[I a5]) k else(fun i=>[I (c0 i)]) (k-1)from fun k hk=>by
  have e0:=h2 k hk
  by_cases c:k<1
  ·rw[if_pos c]at e0⊢;simp only[e0]
  ·rw[if_neg c]at e0⊢;simp only[e0]),q_ (show ∀ k,k<1→(fun i=>[I a6]) k=[[I a6]].getD k []from by intro k hk;match k,hk with|0,_=>rfl|k+1,hk=>omega),q_ (re 1),q_ (show(1+n)=(1+n)from rfl),q_ h5,q_ (show ∀ k,k<(1+n)+1→(fun i=>[I (Q i)]) k=if k<(1+n)then(fun i=>[I (q i)]) k else(fun i=>[I a6]) (k-(1+n))from fun k hk=>by
  have e0:=h4 k hk
  by_cases c:k<(1+n)
  ·rw[if_pos c]at e0⊢;simp only[e0]
  ·rw[if_neg c]at e0⊢;simp only[e0]),d_ 8,h_ [.row (fun i=>[I a5]), .row (fun i=>[I (q i)]), .row (fun i=>[I a6]), .row (fun i=>[I (Q i)])]] ?_
  by_cases h6:((((1+n)+1):Nat):Int)>1201
  ·exact absurd h6 (by omega)
  ·have e3:dM a5 a6 a7 a9 a8 a10=mN a5 a6 a7 a8 a10:=(by unfold dM;rw[if_neg (fun z=>by rw[h1]at z;cases z.1)])
   have e1:=dO_eq (s:=a5) (e:=a6) (mo:=a7) (long:=a9) (back:=a8) (eom:=a10) (by omega)
   exact(fin (((1+n)+1)) Q (by omega) (fun i hi=>by
    rw[h4 i (by omega)];unfold dV catV
    by_cases c1:i=0
    ·rw[if_pos (by omega),h2 i (by omega),if_pos (by omega),if_pos c1]
    ·rw[if_neg c1]
     by_cases c2:i<dM a5 a6 a7 a9 a8 a10+1
     ·rw[if_pos (by omega),h2 i (by omega),if_neg (by omega),if_pos c2,hg _ (by omega)];congr 1;omega
     ·rw[if_neg (by omega),if_neg c2])).e [f_ (df h6)] [6]
theorem rOf (a1 a2 a3 a4 a5 a6 a7:Int) (a8 a9 a10:Bool) (a11:Int) (hs:chk a1 a2 a3 a4 a5 a6 a7 a11=0→a6-a5≤6200*a7):
  S 31 [.agg [I a1,I a2,I a3,I a4,I a5,I a6,I a7,B a8,B a9,B a10,I a11]] [] (.tup [.sl 0 (dN a1 a2 a3 a4 a5 a6 a7 a8 a9 a10 a11),I (chk a1 a2 a3 a4 a5 a6 a7 a11)]) [ro (dN a1 a2 a3 a4 a5 a6 a7 a8 a9 a10 a11) (dV a5 a6 a7 a9 a8 a10)]:=by
 refine SCall.st fun X hX=> ?_
 have hGr:=rGrid a1 a2 a3 a4 a5 a6 a7 a8 a9 a10 a11 hs
 by_cases h0:(chk a1 a2 a3 a4 a5 a6 a7 a11)=0
 ·have hL:=chk_loan h0
  have hN:=gN_le (back:=a8) (eom:=a10) hL (hs h0)
  rw[show gcN a1 a2 a3 a4 a5 a6 a7 a8 a10 a11=gN a5 a6 a7 a8 a10 from if_pos h0,h0]at hGr
  rw[show dN a1 a2 a3 a4 a5 a6 a7 a8 a9 a10 a11=dM a5 a6 a7 a9 a8 a10+2 from if_pos h0,h0]at hX
  refine hX.go [c_ [] hGr] ?_
  exact hX.h 17 [f_ rf] [.old 0, .old 1, .nil 1] (show Ok X (demurrageref16_Of_h0 true 0 a1 a2 a3 a4 a5 a6 a7 a8 a9 a10 a11 (gN a5 a6 a7 a8 a10) (gcV a5 a6 a7 a8 a10) 0 (fun _=>default))from
   rof_loop hX (by omega) (oN_le hL (hs h0)) (fun i hi=>gc_btw hL (hs h0) hi) (fun st x n c g0 g1 g2 g3=>rof_end hL (hs h0) hX g0 g1 g2 g3) (gN a5 a6 a7 a8 a10) 0 _ _ _ _ rfl (by omega) rfl (by unfold cB;omega) (fun k hk=>absurd hk (Nat.not_lt_zero _)))
 ·rw[show gcN a1 a2 a3 a4 a5 a6 a7 a8 a10 a11=0 from if_neg h0]at hGr
  rw[show dN a1 a2 a3 a4 a5 a6 a7 a8 a9 a10 a11=0 from if_neg h0]at hX
  refine hX.go [c_ [] hGr] ?_
  exact(IsFin.nilsl hX).e [t_ (bne_iff_ne.2 h0)]
end Go.Proofs.YtgojmodiaffcbaaGreatDoor
