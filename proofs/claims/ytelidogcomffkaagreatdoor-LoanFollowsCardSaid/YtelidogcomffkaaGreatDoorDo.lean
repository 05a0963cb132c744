/-
A loan's days, as the program finds them (chapter 16).
-/
import Derived.Test.YtelidogcomffkaaGreatDoorGd
import Derived.Test.YtelidogcomffkaaGreatDoorCa
import Derived.Test.YtelidogcomffkaaGreatDoorProg
import Derived.KernelRfl
set_option linter.unusedVariables false
set_option linter.unusedSimpArgs false
set_option linter.unusedSectionVars false
namespace Go.Proofs.YtelidogcomffkaaGreatDoor
open Go Go.Sx
variable [EnvT]
def mN (s e mo:Int) (back eom:Bool):Nat:=if 2≤gN s e mo back eom then(if btw s e (stp s e mo back eom (gN s e mo back eom-1)).1=true then gN s e mo back eom-1 else gN s e mo back eom-2)else 0
def oN (s e mo:Int) (back eom:Bool):Nat:=if back=true then gN s e mo back eom-1-mN s e mo back eom else 1
variable {s e mo:Int} {back eom:Bool}
theorem mN_le (h:Loan s e mo) (hs:e-s≤6200*mo):mN s e mo back eom+1≤gN s e mo back eom:=by
 have:=(gN_le (back:=back) (eom:=eom) h hs).1
 unfold mN;(repeat' split)<;>omega
theorem st_btw (h:Loan s e mo) (hs:e-s≤6200*mo) {j:Nat} (hj:j<gN s e mo back eom):btw s e (stp s e mo back eom j).1=true↔1≤j∧j≤mN s e mo back eom:=by
 obtain⟨q1,q2,q3⟩:=gN_ok (back:=back) (eom:=eom) h hs
 have h0:=stp_zero (back:=back) (eom:=eom) h
 rcases Nat.eq_zero_or_pos j with rfl|hp
 ·rw[h0]
  constructor
  ·intro c
   have:=btw_t.1 c
   cases back
   ·simp at this
   ·simp at this
  ·intro c;omega
 ·by_cases c:j+1<gN s e mo back eom
  ·refine⟨fun _=>⟨hp, ?_⟩,fun _=>q2 j hp c⟩
   unfold mN;rw[if_pos (by omega)];split<;>omega
  ·have e1:j=gN s e mo back eom-1:=by omega
   unfold mN
   rw[if_pos (by omega),←e1]
   by_cases d:btw s e (stp s e mo back eom j).1=true
   ·rw[if_pos d];exact⟨fun _=>⟨hp,Nat.le_refl _⟩,fun _=>d⟩
   ·rw[if_neg d];exact⟨fun z=>absurd z d,fun z=>by omega⟩
theorem oN_le (h:Loan s e mo) (hs:e-s≤6200*mo):oN s e mo back eom+mN s e mo back eom≤gN s e mo back eom:=by
 have:=mN_le (back:=back) (eom:=eom) h hs
 unfold oN;split<;>omega
theorem gc_btw (h:Loan s e mo) (hs:e-s≤6200*mo) {i:Nat} (hi:i<gN s e mo back eom):btw s e (gcV s e mo back eom i)=true↔oN s e mo back eom≤i∧i<oN s e mo back eom+mN s e mo back eom:=by
 have hm:=mN_le (back:=back) (eom:=eom) h hs
 unfold gcV oN
 by_cases c:back=true
 ·rw[if_pos c,if_pos c,st_btw h hs (by omega)];omega
 ·rw[if_neg c,if_neg c,st_btw h hs hi];omega
def cB (o m j:Nat):Nat:=min j (o+m)-min j o
theorem cB_on {o m j:Nat} (h:o≤j∧j<o+m):cB o m (j+1)=cB o m j+1∧o+cB o m j=j:=by unfold cB;omega
theorem cB_off {o m j:Nat} (h: ¬(o≤j∧j<o+m)):cB o m (j+1)=cB o m j:=by unfold cB;omega
theorem cB_all {o m j:Nat} (h:o+m≤j):cB o m j=m:=by unfold cB;omega
end Go.Proofs.YtelidogcomffkaaGreatDoor
set_option linter.unusedVariables false
set_option linter.unusedSimpArgs false
set_option linter.unusedSectionVars false
set_option maxRecDepth 100000
namespace Go.Proofs.YtelidogcomffkaaGreatDoor
open Go Go.Sx
variable [EnvT]
noncomputable def dOf_h0 (x1:Int) (x2:Int) (x3:Int) (x4:Int) (x5:Int) (x6:Int) (x7:Int) (x8:Int) (x9:Int) (b10:Bool) (b11:Bool) (b12:Bool) (x13:Int) (n1_:Nat) (g1011:Nat→Int) (n2_:Nat) (g1021:Nat→Int):SC:=
 ⟨[⟨130,slo 19 [(0, .sl 2 n2_),(1, .fn (.func 102) [] [.ptr 0 0]),(7,I x1),(8,I x2)],[.code (bodyAt Tryz.f130 [1,0,1,0,0]), .inLoop (bodyAt Tryz.f130 [1,0,1,0,0]), .inBlock 0, .code (bodyAt Tryz.f130 [1,1])],{}⟩,⟨100,slo 42 [(0, .sl 2 n2_),(1, .fn (.func 102) [] [.ptr 0 0]),(8, .sl 2 n2_),(9, .fn (.func 102) [] [.ptr 0 0])],[.inRegion (opsAt Tryz.f100 [1,0]) [2,3], .code (bodyAt Tryz.f100 [1,1])],{}⟩,⟨75,slo 62 [(1, .ptr 0 0),(4, .sl 1 n1_),(18, .sl 2 n2_),(19, .fn (.func 102) [] [.ptr 0 0])],[.inRegion (opsAt Tryz.f75 [1,1,1,0]) [3,4], .code (bodyAt Tryz.f75 [1,1,1,1])],{}⟩],[some (.box true [I x3,I x4,I x5,I x6,I x7,I x8,I x9,B b10,B b11,B b12,I x13]),ro n1_ g1011,ro n2_ g1021]⟩
noncomputable def dOf_h1 (x1:Int) (x2:Int) (x3:Int) (x4:Int) (x5:Int) (x6:Int) (x7:Int) (b8:Bool) (b9:Bool) (b10:Bool) (x11:Int) (n1_:Nat) (g1011:Nat→Int) (n2_:Nat) (g1021:Nat→Int):SC:=
 ⟨[⟨75,slo 62 [(1, .ptr 0 0),(4, .sl 1 n1_),(6, .sl 2 n2_)],[.code (bodyAt Tryz.f75 [1,1,1,1])],{}⟩],[some (.box true [I x1,I x2,I x3,I x4,I x5,I x6,I x7,B b8,B b9,B b10,I x11]),ro n1_ g1011,ro n2_ g1021]⟩
noncomputable def dOf_h2 (x1:Int) (x2:Int) (x3:Int) (x4:Int) (x5:Int) (x6:Int) (x7:Int) (x8:Int) (x9:Int) (b10:Bool) (b11:Bool) (b12:Bool) (x13:Int) (n1_:Nat) (g1011:Nat→Int) (n2_:Nat) (g1021:Nat→Int):SC:=
 ⟨[⟨100,slo 42 [(0, .sl 2 n2_),(1, .fn (.func 102) [] [.ptr 0 0]),(5,I x1),(6,I x2)],[.code (bodyAt Tryz.f100 [1,1,1,0,1,0,0]), .inLoop (bodyAt Tryz.f100 [1,1,1,0,1,0,0]), .inBlock 0, .code (bodyAt Tryz.f100 [1,1,1,1])],{}⟩,⟨75,slo 62 [(1, .ptr 0 0),(4, .sl 1 n1_),(18, .sl 2 n2_),(19, .fn (.func 102) [] [.ptr 0 0])],[.inRegion (opsAt Tryz.f75 [1,1,1,0]) [3,4], .code (bodyAt Tryz.f75 [1,1,1,1])],{}⟩],[some (.box true [I x3,I x4,I x5,I x6,I x7,I x8,I x9,B b10,B b11,B b12,I x13]),ro n1_ g1011,ro n2_ g1021]⟩
theorem del_loop2 {X:Cx} {a1 a2 a3 a4 a5 a6 a7:Int} {a8 a9 a10:Bool} {a11:Int} {N o m:Nat} {G:Nat→Int} {res:SV} {new:List (Option Vw)} (hX:IsFin X Tryz.prog GL 75 [] res new) (hN:N≤1000) (hom:o+m≤N) (hmN:m+1≤N) (hbt: ∀ i,i<N→(btw a5 a6 (G i)=true↔o≤i∧i<o+m))
  (K: ∀ (n:Nat) (g:Nat→Int),n=m→(∀ i,i<m→g i=G (o+i))→Ok X (dOf_h1 a1 a2 a3 a4 a5 a6 a7 a8 a9 a10 a11 N G n g)):
  ∀ (f j:Nat) (x y:Int) (c:Nat→Int),x=(cB o m j:Int)→y=(j:Int)→N=j+f→cB o m j+1≤j→(∀ k,k<cB o m j→c k=G (o+k))→(∀ k,j≤k→k<N→c k=G k)→
    Ok X (dOf_h2 x y a1 a2 a3 a4 a5 a6 a7 a8 a9 a10 a11 N G N c):=by
 intro f
 induction f with
 |zero=>
  intro j x y c hx hy hf hj1 hc1 hc2
  have h0: ¬y<((N:Nat):Int):=by omega
  have hall:=cB_all (o:=o) (m:=m) (j:=j) (by omega)
  have h1:(0:Int)≤x∧x<((N:Nat):Int):=by omega
  refine hX.s 14 [f_ (df h0)] ?_
  refine hX.clr [q_ (re N),q_ h1] ?_
  have h2:(0:Int)≤x∧x≤((x.toNat:Nat):Int):=by omega
  refine hX.h 11 [q_ h2,q_ (re N),h_ [.cut]] [.old 0, .old 1, .old 3] (show Ok X (dOf_h1 a1 a2 a3 a4 a5 a6 a7 a8 a9 a10 a11 N G x.toNat c)from K x.toNat c (by omega) (fun i hi=>hc1 i (by omega)))
 |succ f ih=>
  intro j x y c hx hy hf hj1 hc1 hc2
  have h0:y<((N:Nat):Int):=by omega
  have h1:(0:Int)≤y∧y<((N:Nat):Int):=by omega
  refine hX.go [t_ (dt h0),q_ h1,q_ (re N),q_ h1,i_,c_ [] (dBtw a1 a2 a3 a4 a5 a6 a7 a8 a9 a10 a11 (c y.toNat))] ?_
  have e2:y.toNat=j:=by omega
  have hv:=hbt j (by omega)
  have ecj:c y.toNat=G j:=by rw[e2];exact hc2 j (Nat.le_refl _) (by omega)
  have hj1':cB o m (j+1)+1≤j+1:=by have:=cB_on (o:=o) (m:=m) (j:=j);have:=cB_off (o:=o) (m:=m) (j:=j);omega
  rcases bcase (btw a5 a6 (c y.toNat))with h2|h2
  ·have hin:=hv.1 (by rw[←ecj];exact h2)
   obtain⟨hcb,ho⟩:=cB_on hin
   have h3:(0:Int)≤x∧x<((N:Nat):Int):=by omega
   obtain⟨q,h4⟩: ∃ q:Nat→Int, ∀ k,k<N→q k=if k=x.toNat then(c y.toNat)else(c k):=⟨_,fun k _=>rfl⟩
   have h5:Ir (x+1):=by simp only[Ir,InR];omega
   have h6:Ir (y+1):=by simp only[Ir,InR];omega
   refine hX.h 21 [t_ (Go.Sx.not_t (nf h2)),q_ h3,q_ (re N),q_ h3,q_ (show ∀ k,k<N→(fun i=>[I (q i)]) k=if k=x.toNat then putRow ((fun i=>[I (c i)]) k) 0 [I (c y.toNat)]else(fun i=>[I (c i)]) k from fun k hk=>by
   have e0:=h4 k hk
   by_cases c:k=x.toNat
   ·rw[if_pos c]at e0⊢;simp only[e0];try rfl
   ·rw[if_neg c]at e0⊢;simp only[e0]),q_ h5,q_ h6,h_ [.row (fun i=>[I (q i)])]] (oldM 3) (show Ok X (dOf_h2 (x+1) (y+1) a1 a2 a3 a4 a5 a6 a7 a8 a9 a10 a11 N G N q)from ih (j+1) _ _ q (by omega) (by omega) (by omega) hj1' ?_ ?_)
   ·intro k hk
    rw[h4 k (by omega)]
    by_cases d:k=x.toNat
    ·rw[if_pos d,e2,hc2 j (Nat.le_refl _) (by omega),show o+k=j by omega]
    ·rw[if_neg d];exact hc1 k (by omega)
   ·intro k hk hk2
    rw[h4 k hk2,if_neg (by omega)];exact hc2 k (by omega) hk2
  ·have hout: ¬(o≤j∧j<o+m):=fun z=>by rw[ecj]at h2;rw[hv.2 z]at h2;cases h2
   have hcb:=cB_off hout
   have h3:Ir (y+1):=by simp only[Ir,InR];omega
   refine hX.h 9 [f_ (Go.Sx.not_f (nt h2)),q_ h3] (oldM 3) (show Ok X (dOf_h2 x (y+1) a1 a2 a3 a4 a5 a6 a7 a8 a9 a10 a11 N G N c)from ih (j+1) _ _ c (by omega) (by omega) (by omega) hj1' (fun k hk=>hc1 k (by omega)) (fun k hk hk2=>hc2 k (by omega) hk2))
theorem del_loop1 {X:Cx} {a1 a2 a3 a4 a5 a6 a7:Int} {a8 a9 a10:Bool} {a11:Int} {N o m:Nat} {G:Nat→Int} {res:SV} {new:List (Option Vw)} (hX:IsFin X Tryz.prog GL 75 [] res new) (hN:N≤1000) (hom:o+m≤N) (hmN:m+1≤N) (hbt: ∀ i,i<N→(btw a5 a6 (G i)=true↔o≤i∧i<o+m))
  (K: ∀ (n:Nat) (g:Nat→Int),n=m→(∀ i,i<m→g i=G (o+i))→Ok X (dOf_h1 a1 a2 a3 a4 a5 a6 a7 a8 a9 a10 a11 N G n g)):
  ∀ (f j:Nat) (x y:Int),x=(N:Int)→y=(j:Int)→N=j+f→(∀ k,k<j→o≤k∧k<o+m)→
    Ok X (dOf_h0 x y a1 a2 a3 a4 a5 a6 a7 a8 a9 a10 a11 N G N G):=by
 intro f
 induction f with
 |zero=>
  intro j x y hx hy hf hall
  exfalso
  have h6:=hall 0 (by omega)
  have h7:=hall (j-1) (by omega)
  omega
 |succ f ih=>
  intro j x y hx hy hf hall
  have h0:y<x:=by omega
  have h1:(0:Int)≤y∧y<((N:Nat):Int):=by omega
  refine hX.go [t_ (dt h0),q_ h1,q_ (re N),q_ h1,i_,c_ [] (dBtw a1 a2 a3 a4 a5 a6 a7 a8 a9 a10 a11 (G y.toNat))] ?_
  have e2:y.toNat=j:=by omega
  have hv:=hbt j (by omega)
  rcases bcase (btw a5 a6 (G y.toNat))with h2|h2
  ·have h3:Ir (y+1):=by simp only[Ir,InR];omega
   refine hX.h 8 [f_ (nf h2),q_ h3] (oldM 3) (show Ok X (dOf_h0 x (y+1) a1 a2 a3 a4 a5 a6 a7 a8 a9 a10 a11 N G N G)from ih (j+1) _ _ hx (by omega) (by omega) (fun k hk=> ?_))
   by_cases d:k<j
   ·exact hall k d
   ·rw[show k=j by omega];exact hv.1 (by rw[←e2];exact h2)
  ·refine hX.go [t_ (nt h2)] ?_
   have hout: ¬(o≤j∧j<o+m):=fun z=>by rw[e2]at h2;rw[hv.2 z]at h2;cases h2
   by_cases h3:y=(-1)
   ·exact absurd h3 (by omega)
   ·have h4:Ir (y+1):=by simp only[Ir,InR];omega
    have hcj:cB o m (j+1)=j∧(∀ k,k<j→o+k=k):=by
     have h5:=cB_off hout
     rcases Nat.eq_zero_or_pos j with rfl|hp
     ·exact⟨by rw[h5];unfold cB;omega,fun k hk=>by omega⟩
     ·have h6:=hall 0 hp
      have h7:=hall (j-1) (by omega)
      exact⟨by rw[h5];unfold cB;omega,fun k hk=>by omega⟩
    exact hX.h 11 [f_ (beq_eq_false_iff_ne.2 h3),q_ h4] (oldM 3) (show Ok X (dOf_h2 y (y+1) a1 a2 a3 a4 a5 a6 a7 a8 a9 a10 a11 N G N G)from del_loop2 hX hN hom hmN hbt K f (j+1) _ _ G (by rw[hcj.1];exact hy) (by omega) (by omega) (by rw[hcj.1];exact Nat.le_refl _) (fun k hk=>by rw[hcj.2 k (by omega)]) (fun k _ _=>rfl))
def dM (s e mo:Int) (long back eom:Bool):Nat:=if long=true∧hasB (gcV s e mo back eom) (if back=true then s else e) (gN s e mo back eom)=false then mN s e mo back eom-1 else mN s e mo back eom
def dO (s e mo:Int) (long back eom:Bool):Nat:=if back=true then gN s e mo back eom-1-dM s e mo long back eom else 1
def dV (s e mo:Int) (long back eom:Bool):Nat→Int:=catV s (fun i=>gcV s e mo back eom (dO s e mo long back eom+i)) (dM s e mo long back eom) e
def dN (a1 a2 a3 a4 a5 a6 a7:Int) (a8 a9 a10:Bool) (a11:Int):Nat:=if chk a1 a2 a3 a4 a5 a6 a7 a11=0 then dM a5 a6 a7 a9 a8 a10+2 else 0
theorem do_end {X:Cx} {a1 a2 a3 a4 a5 a6 a7:Int} {a8 a9 a10:Bool} {a11:Int} {m:Nat} {g:Nat→Int} (hL:Loan a5 a6 a7) (hs:a6-a5≤6200*a7)
  (hX:IsFin X Tryz.prog GL 75 [] (.tup [.sl 0 (dM a5 a6 a7 a9 a8 a10+2),I 0]) [ro (dM a5 a6 a7 a9 a8 a10+2) (dV a5 a6 a7 a9 a8 a10)]) (hm:m=mN a5 a6 a7 a8 a10)
  (hg: ∀ i,i<m→g i=gcV a5 a6 a7 a8 a10 (oN a5 a6 a7 a8 a10+i)):Ok X (dOf_h1 a1 a2 a3 a4 a5 a6 a7 a8 a9 a10 a11 (gN a5 a6 a7 a8 a10) (gcV a5 a6 a7 a8 a10) m g):=by
 have hN:=gN_le (back:=a8) (eom:=a10) hL hs
 have hmN:=mN_le (back:=a8) (eom:=a10) hL hs
 have fin: ∀ (k:Nat) (h:Nat→Int),k=dM a5 a6 a7 a9 a8 a10→(∀ i,i<k→h i=gcV a5 a6 a7 a8 a10 (dO a5 a6 a7 a9 a8 a10+i))→IsFin X Tryz.prog GL 75 [] (.tup [.sl 0 (k+2),I 0]) [ro (k+2) (catV a5 h k a6)]:=fun k h hk hh=>by
  subst hk
  refine IsFin.same hX ⟨⟨rfl,rfl,rfl,rfl,fun i hi=> ?_⟩,trivial⟩
  show[I (catV a5 h _ a6 i)]=[I (dV a5 a6 a7 a9 a8 a10 i)]
  unfold dV catV
  by_cases c1:i=0
  ·rw[if_pos c1,if_pos c1]
  ·rw[if_neg c1,if_neg c1]
   by_cases c2:i<dM a5 a6 a7 a9 a8 a10+1
   ·rw[if_pos c2,if_pos c2,hh _ (by omega)]
   ·rw[if_neg c2,if_neg c2]
 rcases bcase a8 with h0|h0
 ·have hF:(if a8=true then a5 else a6)=a5:=if_pos h0
  have e1:dO a5 a6 a7 a9 a8 a10=gN a5 a6 a7 a8 a10-1-dM a5 a6 a7 a9 a8 a10:=if_pos h0
  have e2:oN a5 a6 a7 a8 a10=gN a5 a6 a7 a8 a10-1-mN a5 a6 a7 a8 a10:=if_pos h0
  refine hX.go [t_ h0] ?_
  rcases bcase a9 with h1|h1
  ·refine hX.go [n_ 4 (t_ h1)] ?_
   by_cases h2:((m:Nat):Int)>0
   ·have h3:(gN a5 a6 a7 a8 a10)≤10000:=by omega
    refine hX.go [n_ 3 (t_ (dt h2)),c_ [1] (show S 104 [.sl 0 (gN a5 a6 a7 a8 a10),I a5] [ri (gN a5 a6 a7 a8 a10) (gcV a5 a6 a7 a8 a10)] (B (hasB (gcV a5 a6 a7 a8 a10) a5 (gN a5 a6 a7 a8 a10))) []from sHas h3),t_ (dt h2),t_ (dt h2)] ?_
    rcases bcase (hasB (gcV a5 a6 a7 a8 a10) a5 (gN a5 a6 a7 a8 a10))with h4|h4
    ·have h5:m≤10000:=by omega
     refine hX.go [f_ (nf h4),q_ (show ∀ k,k<1→(fun i=>[I a5]) k=[[I a5]].getD k []from by intro k hk;match k,hk with|0,_=>rfl|k+1,hk=>omega),q_ (show ∀ k,k<1→(fun i=>[I a6]) k=[[I a6]].getD k []from by intro k hk;match k,hk with|0,_=>rfl|k+1,hk=>omega),q_ (show ∀ k,k<3→(lrow [[.sl 3 1],[.sl 2 m],[.sl 4 1]]) k=[[.sl 3 1],[.sl 2 m],[.sl 4 1]].getD k []from by intro k hk;match k,hk with|0,_=>rfl|1,_=>rfl|2,_=>rfl|k+3,hk=>omega),h_ [.row (fun i=>[I a5]), .row (fun i=>[I a6]), .row (lrow [[.sl 3 1],[.sl 2 m],[.sl 4 1]])],c_ [5,3,2,4] (show S 105 [.sl 0 3] [some (.row false 26 3 1 (fun i=>rnmL (inv [5,3,2,4]) (lrow [[.sl 3 1],[.sl 2 m],[.sl 4 1]] i))),some (.row false 3 1 1 (fun i=>[I a5])),ri m g,some (.row false 3 1 1 (fun i=>[I a6]))] (.sl 4 (m+2)) [some (.row true 3 (m+2) 1 (fun i=>[I (catV a5 (fun i=>(g i)) m a6 i)]))]from sCatF _ h5 (fun i hi=>by match i,hi with|0,_=>rfl|1,_=>rfl|2,_=>rfl|i+3,hi=>omega))] ?_
     by_cases h6:(((m+2):Nat):Int)>1201
     ·exact absurd h6 (by omega)
     ·exact(fin (m) (fun i=>(g i)) (by
       have e3:dM a5 a6 a7 a9 a8 a10=mN a5 a6 a7 a8 a10:=(by unfold dM;rw[hF];rw[if_neg (fun z=>by rw[h4]at z;cases z.2)])
       omega) (fun i hi=>by
       have e3:dM a5 a6 a7 a9 a8 a10=mN a5 a6 a7 a8 a10:=(by unfold dM;rw[hF];rw[if_neg (fun z=>by rw[h4]at z;cases z.2)])
       rw[hg _ (by omega)];congr 1;omega)).e [f_ (df h6)] [6]
    ·have h5:(0:Int)≤1∧(1:Int)≤((m:Nat):Int):=by omega
     have h6:((((m:Nat):Int).toNat)-1)≤10000:=by omega
     refine hX.go [t_ (nt h4),t_ h0,q_ (re m),q_ (show(0:Int)≤((m:Nat):Int)∧((m:Nat):Int)≤((m:Nat):Int)from by first|decide|omega|(constructor<;>omega)),q_ h5,q_ (show ∀ k,k<1→(fun i=>[I a5]) k=[[I a5]].getD k []from by intro k hk;match k,hk with|0,_=>rfl|k+1,hk=>omega),q_ (show ∀ k,k<1→(fun i=>[I a6]) k=[[I a6]].getD k []from by intro k hk;match k,hk with|0,_=>rfl|k+1,hk=>omega),q_ (show ∀ k,k<3→(lrow [[.sl 4 1],[.sl 3 ((((m:Nat):Int).toNat)-1)],[.sl 5 1]]) k=[[.sl 4 1],[.sl 3 ((((m:Nat):Int).toNat)-1)],[.sl 5 1]].getD k []from by intro k hk;match k,hk with|0,_=>rfl|1,_=>rfl|2,_=>rfl|k+3,hk=>omega),h_ [.row (fun i=>[I a5]), .row (fun i=>[I a6]), .row (lrow [[.sl 4 1],[.sl 3 ((((m:Nat):Int).toNat)-1)],[.sl 5 1]])],c_ [6,4,3,5] (show S 105 [.sl 0 3] [some (.row false 26 3 1 (fun i=>rnmL (inv [6,4,3,5]) (lrow [[.sl 4 1],[.sl 3 ((((m:Nat):Int).toNat)-1)],[.sl 5 1]] i))),some (.row false 3 1 1 (fun i=>[I a5])),some (.row false 3 ((((m:Nat):Int).toNat)-1) 1 (fun i=>[I (g (i+1))])),some (.row false 3 1 1 (fun i=>[I a6]))] (.sl 4 (((((m:Nat):Int).toNat)-1)+2)) [some (.row true 3 (((((m:Nat):Int).toNat)-1)+2) 1 (fun i=>[I (catV a5 (fun i=>(g (i+1))) ((((m:Nat):Int).toNat)-1) a6 i)]))]from sCatF _ h6 (fun i hi=>by match i,hi with|0,_=>rfl|1,_=>rfl|2,_=>rfl|i+3,hi=>omega))] ?_
     by_cases h7:(((((((m:Nat):Int).toNat)-1)+2):Nat):Int)>1201
     ·exact absurd h7 (by omega)
     ·exact(fin (((((m:Nat):Int).toNat)-1)) (fun i=>(g (i+1))) (by
       have e3:dM a5 a6 a7 a9 a8 a10=mN a5 a6 a7 a8 a10-1:=(by unfold dM;rw[hF];rw[if_pos ⟨h1,h4⟩])
       omega) (fun i hi=>by
       have e3:dM a5 a6 a7 a9 a8 a10=mN a5 a6 a7 a8 a10-1:=(by unfold dM;rw[hF];rw[if_pos ⟨h1,h4⟩])
       rw[hg _ (by omega)];congr 1;omega)).e [f_ (df h7)] [7]
   ·have h3:m≤10000:=by omega
    refine hX.go [n_ 5 (f_ (df h2)),f_ rf,q_ (show ∀ k,k<1→(fun i=>[I a5]) k=[[I a5]].getD k []from by intro k hk;match k,hk with|0,_=>rfl|k+1,hk=>omega),q_ (show ∀ k,k<1→(fun i=>[I a6]) k=[[I a6]].getD k []from by intro k hk;match k,hk with|0,_=>rfl|k+1,hk=>omega),q_ (show ∀ k,k<3→(lrow [[.sl 3 1],[.sl 2 m],[.sl 4 1]]) k=[[.sl 3 1],[.sl 2 m],[.sl 4 1]].getD k []from by intro k hk;match k,hk with|0,_=>rfl|1,_=>rfl|2,_=>rfl|k+3,hk=>omega),h_ [.row (fun i=>[I a5]), .row (fun i=>[I a6]), .row (lrow [[.sl 3 1],[.sl 2 m],[.sl 4 1]])],c_ [5,3,2,4] (show S 105 [.sl 0 3] [some (.row false 26 3 1 (fun i=>rnmL (inv [5,3,2,4]) (lrow [[.sl 3 1],[.sl 2 m],[.sl 4 1]] i))),some (.row false 3 1 1 (fun i=>[I a5])),ri m g,some (.row false 3 1 1 (fun i=>[I a6]))] (.sl 4 (m+2)) [some (.row true 3 (m+2) 1 (fun i=>[I (catV a5 (fun i=>(g i)) m a6 i)]))]from sCatF _ h3 (fun i hi=>by match i,hi with|0,_=>rfl|1,_=>rfl|2,_=>rfl|i+3,hi=>omega))] ?_
    by_cases h4:(((m+2):Nat):Int)>1201
    ·exact absurd h4 (by omega)
    ·exact(fin (m) (fun i=>(g i)) (by
       have e3:dM a5 a6 a7 a9 a8 a10=0:=(by unfold dM;rw[hF];split<;>omega)
       omega) (fun i hi=>by
       have e3:dM a5 a6 a7 a9 a8 a10=0:=(by unfold dM;rw[hF];split<;>omega)
       rw[hg _ (by omega)];congr 1;omega)).e [f_ (df h4)] [6]
  ·have h2:m≤10000:=by omega
   refine hX.go [n_ 4 (f_ h1),n_ 6 (f_ rf),q_ (show ∀ k,k<1→(fun i=>[I a5]) k=[[I a5]].getD k []from by intro k hk;match k,hk with|0,_=>rfl|k+1,hk=>omega),q_ (show ∀ k,k<1→(fun i=>[I a6]) k=[[I a6]].getD k []from by intro k hk;match k,hk with|0,_=>rfl|k+1,hk=>omega),q_ (show ∀ k,k<3→(lrow [[.sl 3 1],[.sl 2 m],[.sl 4 1]]) k=[[.sl 3 1],[.sl 2 m],[.sl 4 1]].getD k []from by intro k hk;match k,hk with|0,_=>rfl|1,_=>rfl|2,_=>rfl|k+3,hk=>omega),h_ [.row (fun i=>[I a5]), .row (fun i=>[I a6]), .row (lrow [[.sl 3 1],[.sl 2 m],[.sl 4 1]])],c_ [5,3,2,4] (show S 105 [.sl 0 3] [some (.row false 26 3 1 (fun i=>rnmL (inv [5,3,2,4]) (lrow [[.sl 3 1],[.sl 2 m],[.sl 4 1]] i))),some (.row false 3 1 1 (fun i=>[I a5])),ri m g,some (.row false 3 1 1 (fun i=>[I a6]))] (.sl 4 (m+2)) [some (.row true 3 (m+2) 1 (fun i=>[I (catV a5 (fun i=>(g i)) m a6 i)]))]from sCatF _ h2 (fun i hi=>by match i,hi with|0,_=>rfl|1,_=>rfl|2,_=>rfl|i+3,hi=>omega))] ?_
   by_cases h3:(((m+2):Nat):Int)>1201
   ·exact absurd h3 (by omega)
   ·exact(fin (m) (fun i=>(g i)) (by
         have e3:dM a5 a6 a7 a9 a8 a10=mN a5 a6 a7 a8 a10:=(by unfold dM;rw[hF];rw[if_neg (fun z=>by rw[h1]at z;cases z.1)])
         omega) (fun i hi=>by
         have e3:dM a5 a6 a7 a9 a8 a10=mN a5 a6 a7 a8 a10:=(by unfold dM;rw[hF];rw[if_neg (fun z=>by rw[h1]at z;cases z.1)])
         rw[hg _ (by omega)];congr 1;omega)).e [f_ (df h3)] [6]
 ·have hF:(if a8=true then a5 else a6)=a6:=if_neg (by rw[h0];decide)
  have e1:dO a5 a6 a7 a9 a8 a10=1:=if_neg (by rw[h0];decide)
  have e2:oN a5 a6 a7 a8 a10=1:=if_neg (by rw[h0];decide)
  refine hX.go [f_ h0] ?_
  rcases bcase a9 with h1|h1
  ·refine hX.go [n_ 4 (t_ h1)] ?_
   by_cases h2:((m:Nat):Int)>0
   ·have h3:(gN a5 a6 a7 a8 a10)≤10000:=by omega
    refine hX.go [n_ 3 (t_ (dt h2)),c_ [1] (show S 104 [.sl 0 (gN a5 a6 a7 a8 a10),I a6] [ri (gN a5 a6 a7 a8 a10) (gcV a5 a6 a7 a8 a10)] (B (hasB (gcV a5 a6 a7 a8 a10) a6 (gN a5 a6 a7 a8 a10))) []from sHas h3),t_ (dt h2),t_ (dt h2)] ?_
    rcases bcase (hasB (gcV a5 a6 a7 a8 a10) a6 (gN a5 a6 a7 a8 a10))with h4|h4
    ·have h5:m≤10000:=by omega
     refine hX.go [f_ (nf h4),q_ (show ∀ k,k<1→(fun i=>[I a5]) k=[[I a5]].getD k []from by intro k hk;match k,hk with|0,_=>rfl|k+1,hk=>omega),q_ (show ∀ k,k<1→(fun i=>[I a6]) k=[[I a6]].getD k []from by intro k hk;match k,hk with|0,_=>rfl|k+1,hk=>omega),q_ (show ∀ k,k<3→(lrow [[.sl 3 1],[.sl 2 m],[.sl 4 1]]) k=[[.sl 3 1],[.sl 2 m],[.sl 4 1]].getD k []from by intro k hk;match k,hk with|0,_=>rfl|1,_=>rfl|2,_=>rfl|k+3,hk=>omega),h_ [.row (fun i=>[I a5]), .row (fun i=>[I a6]), .row (lrow [[.sl 3 1],[.sl 2 m],[.sl 4 1]])],c_ [5,3,2,4] (show S 105 [.sl 0 3] [some (.row false 26 3 1 (fun i=>rnmL (inv [5,3,2,4]) (lrow [[.sl 3 1],[.sl 2 m],[.sl 4 1]] i))),some (.row false 3 1 1 (fun i=>[I a5])),ri m g,some (.row false 3 1 1 (fun i=>[I a6]))] (.sl 4 (m+2)) [some (.row true 3 (m+2) 1 (fun i=>[I (catV a5 (fun i=>(g i)) m a6 i)]))]from sCatF _ h5 (fun i hi=>by match i,hi with|0,_=>rfl|1,_=>rfl|2,_=>rfl|i+3,hi=>omega))] ?_
     by_cases h6:(((m+2):Nat):Int)>1201
     ·exact absurd h6 (by omega)
     ·exact(fin (m) (fun i=>(g i)) (by
       have e3:dM a5 a6 a7 a9 a8 a10=mN a5 a6 a7 a8 a10:=(by unfold dM;rw[hF];rw[if_neg (fun z=>by rw[h4]at z;cases z.2)])
       omega) (fun i hi=>by
       have e3:dM a5 a6 a7 a9 a8 a10=mN a5 a6 a7 a8 a10:=(by unfold dM;rw[hF];rw[if_neg (fun z=>by rw[h4]at z;cases z.2)])
       rw[hg _ (by omega)];congr 1;omega)).e [f_ (df h6)] [6]
    ·have h5:Ir (((m:Nat):Int)-1):=by simp only[Ir,InR];omega
     have h6:(0:Int)≤(((m:Nat):Int)-1)∧(((m:Nat):Int)-1)≤((m:Nat):Int):=by omega
     have h7:(0:Int)≤0∧(0:Int)≤(((m:Nat):Int)-1):=by omega
     have h8:(((((m:Nat):Int)-1).toNat)-0)≤10000:=by omega
     refine hX.go [t_ (nt h4),f_ h0,q_ h5,q_ (re m),q_ h6,q_ h7,q_ (show ∀ k,k<1→(fun i=>[I a5]) k=[[I a5]].getD k []from by intro k hk;match k,hk with|0,_=>rfl|k+1,hk=>omega),q_ (show ∀ k,k<1→(fun i=>[I a6]) k=[[I a6]].getD k []from by intro k hk;match k,hk with|0,_=>rfl|k+1,hk=>omega),q_ (show ∀ k,k<3→(lrow [[.sl 4 1],[.sl 3 (((((m:Nat):Int)-1).toNat)-0)],[.sl 5 1]]) k=[[.sl 4 1],[.sl 3 (((((m:Nat):Int)-1).toNat)-0)],[.sl 5 1]].getD k []from by intro k hk;match k,hk with|0,_=>rfl|1,_=>rfl|2,_=>rfl|k+3,hk=>omega),h_ [.row (fun i=>[I a5]), .row (fun i=>[I a6]), .row (lrow [[.sl 4 1],[.sl 3 (((((m:Nat):Int)-1).toNat)-0)],[.sl 5 1]])],c_ [6,4,3,5] (show S 105 [.sl 0 3] [some (.row false 26 3 1 (fun i=>rnmL (inv [6,4,3,5]) (lrow [[.sl 4 1],[.sl 3 (((((m:Nat):Int)-1).toNat)-0)],[.sl 5 1]] i))),some (.row false 3 1 1 (fun i=>[I a5])),some (.row false 3 (((((m:Nat):Int)-1).toNat)-0) 1 (fun i=>[I (g (i+0))])),some (.row false 3 1 1 (fun i=>[I a6]))] (.sl 4 ((((((m:Nat):Int)-1).toNat)-0)+2)) [some (.row true 3 ((((((m:Nat):Int)-1).toNat)-0)+2) 1 (fun i=>[I (catV a5 (fun i=>(g (i+0))) (((((m:Nat):Int)-1).toNat)-0) a6 i)]))]from sCatF _ h8 (fun i hi=>by match i,hi with|0,_=>rfl|1,_=>rfl|2,_=>rfl|i+3,hi=>omega))] ?_
     by_cases h9:((((((((m:Nat):Int)-1).toNat)-0)+2):Nat):Int)>1201
     ·exact absurd h9 (by omega)
     ·exact(fin ((((((m:Nat):Int)-1).toNat)-0)) (fun i=>(g (i+0))) (by
       have e3:dM a5 a6 a7 a9 a8 a10=mN a5 a6 a7 a8 a10-1:=(by unfold dM;rw[hF];rw[if_pos ⟨h1,h4⟩])
       omega) (fun i hi=>by
       have e3:dM a5 a6 a7 a9 a8 a10=mN a5 a6 a7 a8 a10-1:=(by unfold dM;rw[hF];rw[if_pos ⟨h1,h4⟩])
       rw[hg _ (by omega)];congr 1;omega)).e [f_ (df h9)] [7]
   ·have h3:m≤10000:=by omega
    refine hX.go [n_ 5 (f_ (df h2)),f_ rf,q_ (show ∀ k,k<1→(fun i=>[I a5]) k=[[I a5]].getD k []from by intro k hk;match k,hk with|0,_=>rfl|k+1,hk=>omega),q_ (show ∀ k,k<1→(fun i=>[I a6]) k=[[I a6]].getD k []from by intro k hk;match k,hk with|0,_=>rfl|k+1,hk=>omega),q_ (show ∀ k,k<3→(lrow [[.sl 3 1],[.sl 2 m],[.sl 4 1]]) k=[[.sl 3 1],[.sl 2 m],[.sl 4 1]].getD k []from by intro k hk;match k,hk with|0,_=>rfl|1,_=>rfl|2,_=>rfl|k+3,hk=>omega),h_ [.row (fun i=>[I a5]), .row (fun i=>[I a6]), .row (lrow [[.sl 3 1],[.sl 2 m],[.sl 4 1]])],c_ [5,3,2,4] (show S 105 [.sl 0 3] [some (.row false 26 3 1 (fun i=>rnmL (inv [5,3,2,4]) (lrow [[.sl 3 1],[.sl 2 m],[.sl 4 1]] i))),some (.row false 3 1 1 (fun i=>[I a5])),ri m g,some (.row false 3 1 1 (fun i=>[I a6]))] (.sl 4 (m+2)) [some (.row true 3 (m+2) 1 (fun i=>[I (catV a5 (fun i=>(g i)) m a6 i)]))]from sCatF _ h3 (fun i hi=>by match i,hi with|0,_=>rfl|1,_=>rfl|2,_=>rfl|i+3,hi=>omega))] ?_
    by_cases h4:(((m+2):Nat):Int)>1201
    ·exact absurd h4 (by omega)
    ·exact(fin (m) (fun i=>(g i)) (by
       have e3:dM a5 a6 a7 a9 a8 a10=0:=(by unfold dM;rw[hF];split<;>omega)
       omega) (fun i hi=>by
       have e3:dM a5 a6 a7 a9 a8 a10=0:=(by unfold dM;rw[hF];split<;>omega)
       rw[hg _ (by omega)];congr 1;omega)).e [f_ (df h4)] [6]
  ·have h2:m≤10000:=by omega
   refine hX.go [n_ 4 (f_ h1),n_ 6 (f_ rf),q_ (show ∀ k,k<1→(fun i=>[I a5]) k=[[I a5]].getD k []from by intro k hk;match k,hk with|0,_=>rfl|k+1,hk=>omega),q_ (show ∀ k,k<1→(fun i=>[I a6]) k=[[I a6]].getD k []from by intro k hk;match k,hk with|0,_=>rfl|k+1,hk=>omega),q_ (show ∀ k,k<3→(lrow [[.sl 3 1],[.sl 2 m],[.sl 4 1]]) k=[[.sl 3 1],[.sl 2 m],[.sl 4 1]].getD k []from by intro k hk;match k,hk with|0,_=>rfl|1,_=>rfl|2,_=>rfl|k+3,hk=>omega),h_ [.row (fun i=>[I a5]), .row (fun i=>[I a6]), .row (lrow [[.sl 3 1],[.sl 2 m],[.sl 4 1]])],c_ [5,3,2,4] (show S 105 [.sl 0 3] [some (.row false 26 3 1 (fun i=>rnmL (inv [5,3,2,4]) (lrow [[.sl 3 1],[.sl 2 m],[.sl 4 1]] i))),some (.row false 3 1 1 (fun i=>[I a5])),ri m g,some (.row false 3 1 1 (fun i=>[I a6]))] (.sl 4 (m+2)) [some (.row true 3 (m+2) 1 (fun i=>[I (catV a5 (fun i=>(g i)) m a6 i)]))]from sCatF _ h2 (fun i hi=>by match i,hi with|0,_=>rfl|1,_=>rfl|2,_=>rfl|i+3,hi=>omega))] ?_
   by_cases h3:(((m+2):Nat):Int)>1201
   ·exact absurd h3 (by omega)
   ·exact(fin (m) (fun i=>(g i)) (by
         have e3:dM a5 a6 a7 a9 a8 a10=mN a5 a6 a7 a8 a10:=(by unfold dM;rw[hF];rw[if_neg (fun z=>by rw[h1]at z;cases z.1)])
         omega) (fun i hi=>by
         have e3:dM a5 a6 a7 a9 a8 a10=mN a5 a6 a7 a8 a10:=(by unfold dM;rw[hF];rw[if_neg (fun z=>by rw[h1]at z;cases z.1)])
         rw[hg _ (by omega)];congr 1;omega)).e [f_ (df h3)] [6]
theorem dOf (a1 a2 a3 a4 a5 a6 a7:Int) (a8 a9 a10:Bool) (a11:Int) (hs:chk a1 a2 a3 a4 a5 a6 a7 a11=0→a6-a5≤6200*a7):
  S 75 [.agg [I a1,I a2,I a3,I a4,I a5,I a6,I a7,B a8,B a9,B a10,I a11]] [] (.tup [.sl 0 (dN a1 a2 a3 a4 a5 a6 a7 a8 a9 a10 a11),I (chk a1 a2 a3 a4 a5 a6 a7 a11)]) [ro (dN a1 a2 a3 a4 a5 a6 a7 a8 a9 a10 a11) (dV a5 a6 a7 a9 a8 a10)]:=by
 refine SCall.st fun X hX=> ?_
 have hGr:=dGrid a1 a2 a3 a4 a5 a6 a7 a8 a9 a10 a11 hs
 by_cases h0:(chk a1 a2 a3 a4 a5 a6 a7 a11)=0
 ·have hL:=chk_loan h0
  have hN:=gN_le (back:=a8) (eom:=a10) hL (hs h0)
  rw[show gcN a1 a2 a3 a4 a5 a6 a7 a8 a10 a11=gN a5 a6 a7 a8 a10 from if_pos h0,h0]at hGr
  rw[show dN a1 a2 a3 a4 a5 a6 a7 a8 a9 a10 a11=dM a5 a6 a7 a9 a8 a10+2 from if_pos h0,h0]at hX
  refine hX.go [c_ [] hGr] ?_
  exact hX.h 30 [f_ rf,c_ [1] (sClone (g:=gcV a5 a6 a7 a8 a10) (n:=gN a5 a6 a7 a8 a10) (by omega) (by omega)),i_,i_] (oldM 3) (show Ok X (dOf_h0 ((gN a5 a6 a7 a8 a10:Nat):Int) 0 a1 a2 a3 a4 a5 a6 a7 a8 a9 a10 a11 (gN a5 a6 a7 a8 a10) (gcV a5 a6 a7 a8 a10) (gN a5 a6 a7 a8 a10) (gcV a5 a6 a7 a8 a10))from
   del_loop1 hX (by omega) (oN_le hL (hs h0)) (mN_le hL (hs h0)) (fun i hi=>gc_btw hL (hs h0) hi) (fun n g hn hg=>do_end hL (hs h0) hX hn (fun i hi=>hg i (by omega))) (gN a5 a6 a7 a8 a10) 0 _ _ rfl rfl (by omega) (fun k hk=>absurd hk (Nat.not_lt_zero _)))
 ·rw[show gcN a1 a2 a3 a4 a5 a6 a7 a8 a10 a11=0 from if_neg h0]at hGr
  rw[show dN a1 a2 a3 a4 a5 a6 a7 a8 a9 a10 a11=0 from if_neg h0]at hX
  refine hX.go [c_ [] hGr] ?_
  exact(IsFin.nilsl hX).e [t_ (bne_iff_ne.2 h0)]
end Go.Proofs.YtelidogcomffkaaGreatDoor
