/-
Tables (table.Of).
-/
import Derived.Test.YtelidogcomffkaaGreatDoorIn
import Derived.Test.YtelidogcomffkaaGreatDoorProg
import Derived.KernelRfl
set_option linter.unusedVariables false
set_option linter.unusedSimpArgs false
set_option linter.unusedSectionVars false
set_option maxRecDepth 100000
namespace Go.Proofs.YtelidogcomffkaaGreatDoor
open Go Go.Sx
variable [EnvT]
def inF (r:Int) (pX pY:Nat→Int) (i:Nat) (o:Int):Int:=(ofV o r (pX i) (pY i)).1
def opF (bk:Nat→Int→Int) (m:Int):Nat→Int
 |0=>m
 |i+1=>opF bk m i-bk i (opF bk m i)
def pbB (n:Nat) (c:Int) (i:Nat) (o:Int):Int:=if i+1=n then o else c
def lvB (n:Nat) (r:Int) (pX pY:Nat→Int) (p:Int) (i:Nat) (o:Int):Int:=if i+1=n then o else mnI (mxI (p-inF r pX pY i o) 0) o
def pyF (r:Int) (pX pY:Nat→Int) (bk:Nat→Int→Int) (m:Int) (i:Nat):Int:=inF r pX pY i (opF bk m i)+bk i (opF bk m i)
def laF (f:Nat→Int):Nat→Int
 |0=>0
 |j+1=>f j
def mxF (g:Nat→Int):Nat→Int
 |0=>g 0
 |j+1=>mxI (mxF g j) (g (j+1))
def endB (n:Nat) (m r:Int) (pX pY:Nat→Int) (p:Int):Bool:=decide (laF (pyF r pX pY (lvB n r pX pY p) m) n≤p)
def lsF (e:Int→Bool):Nat→Int→Int→Int
 |0,lo,_=>lo
 |f+1,lo,hi=>if lo=hi then lo else if e (lo+(hi-lo)/2)=true then lsF e f lo (lo+(hi-lo)/2)else lsF e f (lo+(hi-lo)/2+1) hi
def hiF (n:Nat) (m r:Int) (pX pY:Nat→Int):Int:=m+mxF (fun i=>(ofV m r (pX i) (pY i)).1) (n-1)
def lvP (n:Nat) (m r:Int) (pX pY:Nat→Int):Int:=lsF (endB n m r pX pY) ((hiF n m r pX pY).toNat+1) 0 (hiF n m r pX pY)
def bkT (k:Int) (n:Nat) (m r:Int) (pX pY:Nat→Int):Nat→Int→Int:=if k=2 then lvB n r pX pY (lvP n m r pX pY)else pbB n (if k=0 then 0 else m/n)
abbrev rwV (n:Nat) (m r:Int) (pX pY:Nat→Int) (bk:Nat→Int→Int):Option Vw:=some (.row true 65 n 5 (fun i=>[I (opF bk m i),I (inF r pX pY i (opF bk m i)),I (bk i (opF bk m i)),I (pyF r pX pY bk m i),I (opF bk m (i+1))]))
structure Tb (n:Nat) (m r:Int) (pX pY:Nat→Int):Prop where
 n1:1≤n
 n2:n≤1000
 hm:0≤m∧m≤1000000000000000
 hr:Ir r
 f: ∀ i,i<n→ ∀ o,0≤o→o≤m→(ofV o r (pX i) (pY i)).2=0∧0≤inF r pX pY i o∧inF r pX pY i o≤40000000000000000
def Bk (n:Nat) (m:Int) (bk:Nat→Int→Int):Prop:= ∀ i,i<n→(0≤opF bk m i∧opF bk m i≤m)∧0≤bk i (opF bk m i)∧bk i (opF bk m i)≤opF bk m i
theorem bk_lv {n:Nat} {m r p:Int} {pX pY:Nat→Int} (h:0≤m):Bk n m (lvB n r pX pY p):=by
 have one: ∀ i o,0≤o→0≤lvB n r pX pY p i o∧lvB n r pX pY p i o≤o:=fun i o ho=>by
  unfold lvB mnI mxI
  (repeat' split)<;>omega
 have all: ∀ i,0≤opF (lvB n r pX pY p) m i∧opF (lvB n r pX pY p) m i≤m:=fun i=>by
  induction i with
  |zero=>exact⟨h,Int.le_refl _⟩
  |succ i ih=>
   have:=one i _ ih.1
   show 0≤opF (lvB n r pX pY p) m i-_∧opF (lvB n r pX pY p) m i-_≤m
   omega
 exact fun i _=>⟨all i,one i _ (all i).1⟩
theorem bk_pl {n:Nat} {m c:Int} (hc:0≤c) (h:(n:Int)*c≤m):Bk n m (pbB n c):=by
 have all: ∀ i:Nat,i<n→opF (pbB n c) m i=m-(i:Int)*c:=fun i=>by
  induction i with
  |zero=>intro _;show m=m-0*c;rw[Int.zero_mul,Int.sub_zero]
  |succ i ih=>
   intro hi
   show opF (pbB n c) m i-pbB n c i (opF (pbB n c) m i)=m-((i+1:Nat):Int)*c
   rw[ih (by omega),show pbB n c i (m-(i:Int)*c)=c from if_neg (by omega),Int.natCast_add,Int.add_mul,show((1:Nat):Int)*c=c from Int.one_mul c]
   omega
 intro i hi
 have e:=all i hi
 have h1:0≤(i:Int)*c:=Int.mul_nonneg (by omega) hc
 have h2:((i+1:Nat):Int)*c≤(n:Int)*c:=Int.mul_le_mul_of_nonneg_right (by omega) hc
 rw[Int.natCast_add,Int.add_mul,show((1:Nat):Int)*c=c from Int.one_mul c]at h2
 rw[e]
 refine⟨by omega, ?_⟩
 unfold pbB
 split<;>omega
theorem bk_T {k:Int} {n:Nat} {m r:Int} {pX pY:Nat→Int} (T:Tb n m r pX pY):Bk n m (bkT k n m r pX pY):=by
 have hm:=T.hm
 have hn:=T.n1
 unfold bkT
 split
 ·exact bk_lv hm.1
 ·split
  ·exact bk_pl (Int.le_refl _) (by rw[Int.mul_zero];exact hm.1)
  ·exact bk_pl (Int.ediv_nonneg hm.1 (by omega)) (Int.mul_ediv_self_le (by omega))
theorem bk_last {k:Int} {n:Nat} {m r:Int} {pX pY:Nat→Int} (T:Tb n m r pX pY):opF (bkT k n m r pX pY) m n=0:=by
 have hn:=T.n1
 obtain⟨j,rfl⟩: ∃ j,n=j+1:=⟨n-1,by omega⟩
 have e: ∀ o,bkT k (j+1) m r pX pY j o=o:=fun o=>by
  unfold bkT
  split
  ·exact if_pos rfl
  ·exact if_pos rfl
 show opF _ m j-bkT k (j+1) m r pX pY j _=0
 rw[e];omega
theorem agr {F g:Nat→Int} {j:Nat} {x:Int} (h: ∀ k,k<j→g k=F k) (e:F j=x): ∀ k,k<j+1→F k=if k<j then g k else x:=fun k hk=>by
 by_cases c:k<j
 ·rw[if_pos c,h k c]
 ·rw[if_neg c,show k=j by omega,e]
def Ext (n:Nat) (g:Nat→Int) (x:Int) (q:Nat→Int):Prop:= ∀ k,k<n+1→q k=if k<n then g k else x
abbrev rwL (a b c:Int):Nat→List SV:=fun _=>[I a,I b,I c,I (b+c),I (a-c)]
theorem one_row (a b c:Int): ∀ k,k<1→rwL a b c k=[rwL a b c 0].getD k []:=by intro k hk;match k,hk with|0,_=>rfl|k+1,hk=>omega
theorem ext_row {n:Nat} {g1 g2 g3 g4 g5 q1 q2 q3 q4 q5:Nat→Int} {a b c:Int} (h1:Ext n g1 a q1) (h2:Ext n g2 b q2) (h3:Ext n g3 c q3) (h4:Ext n g4 (b+c) q4) (h5:Ext n g5 (a-c) q5):
  ∀ k,k<n+1→(fun i=>[I (q1 i),I (q2 i),I (q3 i),I (q4 i),I (q5 i)]) k=if k<n then(fun i=>[I (g1 i),I (g2 i),I (g3 i),I (g4 i),I (g5 i)]) k else rwL a b c (k-n):=fun k hk=>by
 have e1:=h1 k hk
 have e2:=h2 k hk
 have e3:=h3 k hk
 have e4:=h4 k hk
 have e5:=h5 k hk
 by_cases d:k<n
 ·rw[if_pos d]at e1 e2 e3 e4 e5⊢;simp only[e1,e2,e3,e4,e5]
 ·rw[if_neg d]at e1 e2 e3 e4 e5⊢;simp only[e1,e2,e3,e4,e5]
def Agr (r:Int) (pX pY:Nat→Int) (bk:Nat→Int→Int) (m:Int) (j:Nat) (g1 g2 g3 g4 g5:Nat→Int):Prop:= ∀ k,k<j→g1 k=opF bk m k∧g2 k=inF r pX pY k (opF bk m k)∧g3 k=bk k (opF bk m k)∧g4 k=pyF r pX pY bk m k∧g5 k=opF bk m (k+1)
theorem agr_r (j:Nat) {r:Int} {pX pY:Nat→Int} {bk:Nat→Int→Int} {m:Int}:Agr r pX pY bk m j (opF bk m) (fun i=>inF r pX pY i (opF bk m i)) (fun i=>bk i (opF bk m i)) (pyF r pX pY bk m) (fun i=>opF bk m (i+1)):=fun _ _=>⟨rfl,rfl,rfl,rfl,rfl⟩
theorem mx_bd {g:Nat→Int} {n:Nat} (h: ∀ i,i<n→0≤g i∧g i≤40000000000000000): ∀ j,j<n→0≤mxF g j∧mxF g j≤40000000000000000
 |0,hj=>h 0 hj
 |j+1,hj=>by
  have a:=mx_bd h j (by omega)
  have b:=h (j+1) hj
  show 0≤mxI (mxF g j) (g (j+1))∧mxI (mxF g j) (g (j+1))≤_
  unfold mxI;split<;>omega
theorem hi_bd {n:Nat} {m r:Int} {pX pY:Nat→Int} (T:Tb n m r pX pY):0≤hiF n m r pX pY∧hiF n m r pX pY≤41000000000000000:=by
 have hm:=T.hm
 have hn:=T.n1
 have:=mx_bd (g:=fun i=>(ofV m r (pX i) (pY i)).1) (n:=n) (fun i hi=>(T.f i hi m hm.1 (Int.le_refl _)).2) (n-1) (by omega)
 unfold hiF;omega
theorem all_0 {n:Nat} {m r:Int} {pX pY:Nat→Int} (h: ∀ i,i<n→(ofV m r (pX i) (pY i)).2=0):allE m r pX pY n=0:=by
 induction n with
 |zero=>rfl
 |succ n ih=>
  have:=ih fun i hi=>h i (by omega)
  unfold allE
  rw[if_neg (by rw[this];decide)]
  exact h n (by omega)
noncomputable def mx_h0 (n:Nat) (g:Nat→Int) (x1:Int) (x2:Int):SC:=
 ⟨[⟨163,slo 25 [(0, .sl 0 n),(3,I x1),(4,I x2)],[.code (bodyAt Tryz.f163 [1,1,1,0,1,0,0]), .inLoop (bodyAt Tryz.f163 [1,1,1,0,1,0,0]), .inBlock 0, .code (bodyAt Tryz.f163 [1,1,1,1])],{}⟩],[ri n g]⟩
theorem mx_w0 {X:Cx} {n:Nat} {g:Nat→Int} {res:SV} (hX:Fi X 163 [ri n g] (res) []) (H: ¬((n:Nat):Int)<1∧((0:Int)≤0∧0<((n:Nat):Int))∧Ok X (mx_h0 n g (g 0) 1)):
  Ok X (entry Tryz.prog 163 [.sl 0 n] [ri n g]):=by
 obtain⟨h0,h1,k⟩:=H
 exact hX.h 27 [f_ (df h0),q_ h1,q_ (re n),q_ h1] (oldM 1) k
theorem mx_w1 {X:Cx} {n:Nat} {g:Nat→Int} {x1 x2:Int} {res:SV} (hX:Fi X 163 [ri n g] (res) []) (H:(x2<((n:Nat):Int)→((0:Int)≤x2∧x2<((n:Nat):Int))∧Ir (x2+1)∧Ok X (mx_h0 n g (mxI x1 (g x2.toNat)) (x2+1)))∧(¬x2<((n:Nat):Int)→(I x1:SV)=res)):
  Ok X (mx_h0 n g x1 x2):=by
 obtain⟨L0,K0⟩:=H
 by_cases h0:x2<((n:Nat):Int)
 ·obtain⟨h1,h2,k⟩:=L0 h0
  exact hX.h 28 [t_ (dt h0),q_ h1,q_ (re n),q_ h1,q_ h2] (oldM 1) k
 ·have HE:=K0 h0
  exact(hX.to HE.symm).e [f_ (df h0)]
theorem mMax {n:Nat} {g:Nat→Int} (h1:1≤n) (h2:n≤1000):S 163 [.sl 0 n] [ri n g] (I (mxF g (n-1))) []:=by
 refine SCall.st fun X hX=>mx_w0 hX ⟨by omega,by omega, ?_⟩
 have loop: ∀ f i,i+1+f=n→Ok X (mx_h0 n g (mxF g i) ((i:Int)+1)):=by
  intro f
  induction f with
  |zero=>
   intro i hi
   refine mx_w1 hX ⟨fun q=>absurd q (by omega),fun _=> ?_⟩
   rw[show n-1=i by omega]
  |succ f ih=>
   intro i hi
   refine mx_w1 hX ⟨fun q=> ?_,fun q=>absurd q (by omega)⟩
   rw[show((i:Int)+1).toNat=i+1 by omega]
   exact⟨by omega,irT (by omega),ih (i+1) (by omega)⟩
 exact loop (n-1) 0 (by omega)
noncomputable def ends_h0 (n:Nat) (pX:Nat→Int) (pY:Nat→Int) (x1:Int) (x2:Int) (x3:Int) (x4:Int) (x5:Int) (x6:Int) (x7:Int) (x8:Int) (x9:Int) (x10:Int):SC:=
 ⟨[⟨95,slo 65 [(1,I x1),(2, .sl 0 n),(3,I x2),(4, .fn (.func 164) [] []),(11,I x3),(12,I x4),(20, .sl 0 n),(21,I x5),(22,I x6)],[.code (bodyAt Tryz.f95 [1,1,0,1,0,0]), .inLoop (bodyAt Tryz.f95 [1,1,0,1,0,0]), .inBlock 0, .code (bodyAt Tryz.f95 [1,1,1])],{}⟩,⟨127,[none,none,none,some (I x7),none,none,none,none,none,some (I x8),some (I x9),some (.sl 0 n),some (I x10),none,none,none],[.inRegion (opsAt Tryz.f127 [1,0]) [4,5,6,7], .code (bodyAt Tryz.f127 [1,1])],{}⟩],[rr n pX pY]⟩
theorem ends_w0 {X:Cx} {m r:Int} {n:Nat} {pX pY:Nat→Int} {p:Int} {res:SV} (hX:Fi X 127 [rr n pX pY] (res) []) (H:Ok X (ends_h0 n pX pY r p m 0 ((n:Nat):Int) 0 p m r p)):
  Ok X (entry Tryz.prog 127 [I m,I r, .sl 0 n,I p] [rr n pX pY]):=by
 have k:=H
 exact hX.h 30 [i_] (oldM 1) k
theorem ends_w1 {X:Cx} {n:Nat} {pX pY:Nat→Int} {x1 x2 x3 x4 x5 x6 x7 x8 x9 x10:Int} {res:SV} (hX:Fi X 127 [rr n pX pY] (res) []) (H:(x6<x5→((0:Int)≤x6∧x6<((n:Nat):Int))∧Ir x3∧Ir x1∧Ir (x2-(inF x1 pX pY x6.toNat x3))∧Ir (((n:Nat):Int)-1)∧(x6=(((n:Nat):Int)-1)→Ir ((inF x1 pX pY x6.toNat x3)+x3)∧Ir (x3-x3)∧Ir (x6+1)∧Ok X (ends_h0 n pX pY x1 x2 (x3-x3) ((inF x1 pX pY x6.toNat x3)+x3) x5 (x6+1) x7 x8 x9 x10))∧(x6≠(((n:Nat):Int)-1)→Ir ((inF x1 pX pY x6.toNat x3)+(mnI (mxI (x2-(inF x1 pX pY x6.toNat x3)) 0) x3))∧Ir (x3-(mnI (mxI (x2-(inF x1 pX pY x6.toNat x3)) 0) x3))∧Ir (x6+1)∧Ok X (ends_h0 n pX pY x1 x2 (x3-(mnI (mxI (x2-(inF x1 pX pY x6.toNat x3)) 0) x3)) ((inF x1 pX pY x6.toNat x3)+(mnI (mxI (x2-(inF x1 pX pY x6.toNat x3)) 0) x3)) x5 (x6+1) x7 x8 x9 x10)))∧(¬x6<x5→(B (decide (x4≤x7)):SV)=res)):
  Ok X (ends_h0 n pX pY x1 x2 x3 x4 x5 x6 x7 x8 x9 x10):=by
 obtain⟨L0,K0⟩:=H
 by_cases h0:x6<x5
 ·obtain⟨h1,h2,h3,h4,h5,L6,K6⟩:=L0 h0
  refine hX.go [t_ (dt h0),q_ h1,q_ (re n),q_ h1,c_ [] (show S 122 [I x3,I x1, .agg [I (pX x6.toNat),I (pY x6.toNat)]] [] (.tup [I (inF x1 pX pY x6.toNat x3),I ((ofV x3 x1 (pX x6.toNat) (pY x6.toNat)).2)]) []from aOf _ _ h2 h3),q_ h4,q_ h5] ?_
  by_cases h6:x6=(((n:Nat):Int)-1)
  ·obtain⟨h7,h8,h9,k⟩:=L6 h6
   exact hX.h 39 [t_ (beq_iff_eq.2 h6),q_ h7,q_ h8,q_ h9,i_,d_ 5] (oldM 1) k
  ·obtain⟨h7,h8,h9,k⟩:=K6 h6
   exact hX.h 36 [f_ (beq_eq_false_iff_ne.2 h6),q_ h7,q_ h8,q_ h9,i_,d_ 5] (oldM 1) k
 ·have HE:=K0 h0
  exact(hX.to HE.symm).e [f_ (df h0)]
theorem mEnds {n:Nat} {m r p:Int} {pX pY:Nat→Int} (T:Tb n m r pX pY) (hp:0≤p∧p≤41000000000000000):S 127 [I m,I r, .sl 0 n,I p] [rr n pX pY] (B (endB n m r pX pY p)) []:=by
 have hm:=T.hm
 have hn:=T.n2
 have B0:=bk_lv (n:=n) (r:=r) (p:=p) (pX:=pX) (pY:=pY) hm.1
 refine SCall.st fun X hX=>ends_w0 hX ?_
 have loop: ∀ f j,j+f=n→Ok X (ends_h0 n pX pY r p (opF (lvB n r pX pY p) m j) (laF (pyF r pX pY (lvB n r pX pY p) m) j) n j p m r p):=by
  intro f
  induction f with
  |zero=>
   intro j hj
   obtain rfl:j=n:=by omega
   exact ends_w1 hX ⟨fun q=>absurd q (by omega),fun _=>rfl⟩
  |succ f ih=>
   intro j hj
   obtain⟨b1,b2⟩:=B0 j (by omega)
   obtain⟨o1,o2⟩:=T.f j (by omega) _ b1.1 b1.2
   have k:=ih (j+1) (by omega)
   have e1:opF (lvB n r pX pY p) m (j+1)=opF (lvB n r pX pY p) m j-lvB n r pX pY p j (opF (lvB n r pX pY p) m j):=rfl
   have e2:laF (pyF r pX pY (lvB n r pX pY p) m) (j+1)=inF r pX pY j (opF (lvB n r pX pY p) m j)+lvB n r pX pY p j (opF (lvB n r pX pY p) m j):=rfl
   rw[e1,e2]at k
   refine ends_w1 hX ⟨fun q=> ?_,fun q=>absurd q (by omega)⟩
   rw[Int.toNat_natCast]
   refine⟨by omega,irT (by omega),T.hr,irT (by omega),irT (by omega),fun c=> ?_,fun c=> ?_⟩
   ·have e3:lvB n r pX pY p j (opF (lvB n r pX pY p) m j)=opF (lvB n r pX pY p) m j:=if_pos (by omega)
    rw[e3]at k
    exact⟨irT (by omega),irT (by omega),irT (by omega),k⟩
   ·have e3:lvB n r pX pY p j (opF (lvB n r pX pY p) m j)=mnI (mxI (p-inF r pX pY j (opF (lvB n r pX pY p) m j)) 0) (opF (lvB n r pX pY p) m j):=if_neg (by omega)
    rw[e3]at k b2
    exact⟨irT (by omega),irT (by omega),irT (by omega),k⟩
 exact loop n 0 (by omega)
noncomputable def least_h0 (n:Nat) (pX:Nat→Int) (pY:Nat→Int) (x1:Int) (x2:Int) (x3:Int) (x4:Int):SC:=
 ⟨[⟨94,slo 40 [(0,I x1),(1,I x2),(2, .sl 0 n),(8,I x3),(10,I x4)],[.code (.seq .skip (bodyAt Tryz.f94 [1,0,1,1,1,1])), .inScope (bodyAt Tryz.f94 [1,0])],{}⟩],[rr n pX pY]⟩
theorem least_w0 {X:Cx} {m r:Int} {n:Nat} {pX pY:Nat→Int} {res:SV} (hX:Fi X 94 [rr n pX pY] (res) []) (H: ¬((n:Nat):Int)<1∧ ¬((n:Nat):Int)>1200∧ ¬m<0∧ ¬m>1000000000000000∧Ir m∧Ir r∧n≤1000∧(allE m r pX pY n)=0∧ ∃ r1:Int,S 163 [.sl 0 (allN m r pX pY n)] [some (.row false 3 (allN m r pX pY n) 1 (fun i=>[I ((ofV m r (pX i) (pY i)).1)]))] (I r1) []∧Ir (m+r1)∧ ¬(m+r1)>4611686018427387904∧(0=(m+r1)→((.tup [I 0,I 0]):SV)=res)∧(0≠(m+r1)→Ir ((m+r1)-0)∧(0:Int)≤((m+r1)-0)∧Ir (((m+r1)-0)/2)∧Ir (0+(((m+r1)-0)/2))∧ ∃ r2:Bool,S 127 [I m,I r, .sl 0 n,I (0+(((m+r1)-0)/2))] [rr n pX pY] (B r2) []∧(r2=true→Ok X (least_h0 n pX pY m r (0+(((m+r1)-0)/2)) 0))∧(r2=false→Ir ((0+(((m+r1)-0)/2))+1)∧Ok X (least_h0 n pX pY m r (m+r1) ((0+(((m+r1)-0)/2))+1))))):
  Ok X (entry Tryz.prog 94 [I m,I r, .sl 0 n] [rr n pX pY]):=by
 obtain⟨h0,h1,h2,h3,h4,h5,h6,h7,r1,h8,h9,h10,L12,K12⟩:=H
 refine hX.go [i_,n_ 3 (f_ (df h0)),f_ (df h1),n_ 3 (f_ (df h2)),f_ (df h3),c_ [0] (show S 162 [I m,I r, .sl 0 n] [rr n pX pY] (.tup [.sl 1 (allN m r pX pY n),I (allE m r pX pY n)]) [some (.row true 3 (allN m r pX pY n) 1 (fun i=>[I ((ofV m r (pX i) (pY i)).1)]))]from aAll h4 h5 h6),f_ (bne_eq_false_iff_eq.2 h7),c_ [1] h8,q_ h9,f_ (df h10),f_ rf] ?_
 by_cases h11:0=(m+r1)
 ·have HE:=L12 h11
  exact(hX.to HE.symm).e [t_ (beq_iff_eq.2 h11)]
 ·obtain⟨h12,h13,h14,h15,r2,h16,L19,K19⟩:=K12 h11
  refine hX.go [f_ (beq_eq_false_iff_ne.2 h11),q_ h12,q_ h13,q_ (show(0:Int)<2 from by decide),q_ h14,q_ h15,c_ [0] h16] ?_
  rcases bcase r2 with h17|h17
  ·have k:=L19 h17
   exact hX.h 6 [t_ h17] (oldM 1) k
  ·obtain⟨h18,k⟩:=K19 h17
   exact hX.h 7 [f_ h17,q_ h18] (oldM 1) k
theorem least_w1 {X:Cx} {n:Nat} {pX pY:Nat→Int} {x1 x2 x3 x4:Int} {res:SV} (hX:Fi X 94 [rr n pX pY] (res) []) (H:(x4=x3→((.tup [I x4,I 0]):SV)=res)∧(x4≠x3→Ir (x3-x4)∧(0:Int)≤(x3-x4)∧Ir ((x3-x4)/2)∧Ir (x4+((x3-x4)/2))∧ ∃ r5005:Bool,S 127 [I x1,I x2, .sl 0 n,I (x4+((x3-x4)/2))] [rr n pX pY] (B r5005) []∧(r5005=true→Ok X (least_h0 n pX pY x1 x2 (x4+((x3-x4)/2)) x4))∧(r5005=false→Ir ((x4+((x3-x4)/2))+1)∧Ok X (least_h0 n pX pY x1 x2 x3 ((x4+((x3-x4)/2))+1))))):
  Ok X (least_h0 n pX pY x1 x2 x3 x4):=by
 obtain⟨L0,K0⟩:=H
 by_cases h0:x4=x3
 ·have HE:=L0 h0
  exact(hX.to HE.symm).e [t_ (beq_iff_eq.2 h0)]
 ·obtain⟨h1,h2,h3,h4,r5005,h5,L7,K7⟩:=K0 h0
  refine hX.go [f_ (beq_eq_false_iff_ne.2 h0),q_ h1,q_ h2,q_ (show(0:Int)<2 from by decide),q_ h3,q_ h4,c_ [0] h5] ?_
  rcases bcase r5005 with h6|h6
  ·have k:=L7 h6
   exact hX.h 6 [t_ h6] (oldM 1) k
  ·obtain⟨h7,k⟩:=K7 h6
   exact hX.h 7 [f_ h6,q_ h7] (oldM 1) k
theorem mLeast {n:Nat} {m r:Int} {pX pY:Nat→Int} (T:Tb n m r pX pY):S 94 [I m,I r, .sl 0 n] [rr n pX pY] (.tup [I (lvP n m r pX pY),I 0]) []:=by
 have hm:=T.hm
 have hn:=T.n1
 have hn2:=T.n2
 have hh:=hi_bd T
 have a0:=all_0 (pX:=pX) (pY:=pY) fun i hi=>(T.f i hi m hm.1 (Int.le_refl _)).1
 have en:allN m r pX pY n=n:=if_pos a0
 refine SCall.st fun X hX=> ?_
 have loop: ∀ (f:Nat) (lo hi:Int),hi-lo≤f→0≤lo→lo≤hi→hi≤41000000000000000→lsF (endB n m r pX pY) f lo hi=lvP n m r pX pY→Ok X (least_h0 n pX pY m r hi lo):=by
  intro f
  induction f with
  |zero=>
   intro lo hi h1 h2 h3 h4 h5
   exact least_w1 hX ⟨fun _=>by rw[←h5];rfl,fun c=>absurd (by omega) c⟩
  |succ f ih=>
   intro lo hi h1 h2 h3 h4 h5
   unfold lsF at h5
   refine least_w1 hX ⟨fun c=>by rw[if_pos c]at h5;rw[h5],fun c=> ?_⟩
   rw[if_neg c]at h5
   refine⟨irT (by omega),by omega,irT (by omega),irT (by omega),_,mEnds T (by omega),fun e=> ?_,fun e=>⟨irT (by omega), ?_⟩⟩
   ·rw[if_pos e]at h5
    exact ih lo _ (by omega) h2 (by omega) (by omega) h5
   ·rw[if_neg (by rw[e];decide)]at h5
    exact ih _ hi (by omega) (by omega) (by omega) h4 h5
 have h5:lsF (endB n m r pX pY) ((hiF n m r pX pY).toNat+1) 0 (hiF n m r pX pY)=lvP n m r pX pY:=rfl
 unfold lsF at h5
 refine least_w0 hX ⟨by omega,by omega,by omega,by omega,irT (by omega),T.hr,by omega,a0,mxF (fun i=>(ofV m r (pX i) (pY i)).1) (n-1),by rw[en];exact mMax hn hn2, ?_⟩
 rw[show m+mxF (fun i=>(ofV m r (pX i) (pY i)).1) (n-1)=hiF n m r pX pY from rfl]
 refine⟨irT (by omega),by omega,fun c=>by rw[if_pos c]at h5;rw[h5],fun c=> ?_⟩
 rw[if_neg c]at h5
 refine⟨irT (by omega),by omega,irT (by omega),irT (by omega),_,mEnds T (by omega),fun e=> ?_,fun e=>⟨irT (by omega), ?_⟩⟩
 ·rw[if_pos e]at h5
  exact loop _ _ _ (by omega) (Int.le_refl _) (by omega) (by omega) h5
 ·rw[if_neg (by rw[e];decide)]at h5
  exact loop _ _ _ (by omega) (by omega) (by omega) (by omega) h5
theorem ls_bd {e:Int→Bool}: ∀ (f:Nat) {lo hi:Int},lo≤hi→lo≤lsF e f lo hi∧lsF e f lo hi≤hi
 |0,lo,hi,h=>⟨Int.le_refl _,h⟩
 |f+1,lo,hi,h=>by
  unfold lsF
  split
  ·exact⟨Int.le_refl _,h⟩
  ·split
   ·have:=ls_bd (e:=e) f (lo:=lo) (hi:=lo+(hi-lo)/2) (by omega)
    omega
   ·have:=ls_bd (e:=e) f (lo:=lo+(hi-lo)/2+1) (hi:=hi) (by omega)
    omega
theorem lv_bd {n:Nat} {m r:Int} {pX pY:Nat→Int} (T:Tb n m r pX pY):0≤lvP n m r pX pY∧lvP n m r pX pY≤41000000000000000:=by
 have:=hi_bd T
 have:=ls_bd (e:=endB n m r pX pY) ((hiF n m r pX pY).toNat+1) (lo:=0) (hi:=hiF n m r pX pY) (by omega)
 unfold lvP;omega
noncomputable def ltab_h0 (n:Nat) (pX:Nat→Int) (pY:Nat→Int) (x1:Int) (x2:Int) (x3:Int) (x4:Int) (x5:Int) (x6:Int) (x7:Int) (x8:Int) (x9:Int) (n2_:Nat) (g1021:Nat→Int) (g1022:Nat→Int) (g1023:Nat→Int) (g1024:Nat→Int) (g1025:Nat→Int):SC:=
 ⟨[⟨95,slo 65 [(1,I x1),(2, .sl 0 n),(3,I x2),(4, .fn (.func 96) [] [.ptr 1 0]),(11,I x3),(12,I x4),(20, .sl 0 n),(21,I x5),(22,I x6)],[.code (bodyAt Tryz.f95 [1,1,0,1,0,0]), .inLoop (bodyAt Tryz.f95 [1,1,0,1,0,0]), .inBlock 0, .code (bodyAt Tryz.f95 [1,1,1])],{}⟩,⟨70,slo 28 [(10, .ptr 1 0),(21,I x7),(22,I x8),(23, .sl 0 n),(24,I x9),(25, .fn (.func 96) [] [.ptr 1 0])],[.inRegion (opsAt Tryz.f70 [1,1,1,1,0]) [5], .code (bodyAt Tryz.f70 [1,1,1,1,1])],{}⟩],[some (.row false 121 n 2 (fun i=>[I (pX i),I (pY i)])),some (.box true [.sl 2 n2_]),some (.row true 65 n2_ 5 (fun i=>[I (g1021 i),I (g1022 i),I (g1023 i),I (g1024 i),I (g1025 i)]))]⟩
theorem ltab_w0 {X:Cx} {m r:Int} {n:Nat} {pX pY:Nat→Int} {res:SV} {new:List (Option Vw)} (hX:Fi X 70 [rr n pX pY] (res) new) (H: ∃ r1:Int, ∃ r2:Int,S 94 [I m,I r, .sl 0 n] [rr n pX pY] (.tup [I r1,I r2]) []∧(r2≠0→(((.tup [.val (.slice none 0 0),I r2]):SV)=res)∧sameHp [] new)∧(r2=0→Ok X (ltab_h0 n pX pY r r1 m 0 ((n:Nat):Int) 0 m r r1 0 (fun _=>default) (fun _=>default) (fun _=>default) (fun _=>default) (fun _=>default)))):
  Ok X (entry Tryz.prog 70 [I m,I r, .sl 0 n] [rr n pX pY]):=by
 obtain⟨r1,r2,h0,L3,K3⟩:=H
 refine hX.go [c_ [0] h0] ?_
 by_cases h1:r2=0
 ·have k:=K3 h1
  exact hX.h 33 [f_ (bne_eq_false_iff_eq.2 h1),i_] [.old 0, .old 1, .nil 5] k
 ·have HE:=L3 h1
  obtain⟨HE,HN⟩:=HE
  exact((hX.to HE.symm).same HN).e [t_ (bne_iff_ne.2 h1)]
theorem ltab_w1 {X:Cx} {n:Nat} {pX pY:Nat→Int} {x1 x2 x3 x4 x5 x6 x7 x8 x9:Int} {n2_:Nat} {g1021 g1022 g1023 g1024 g1025:Nat→Int} {res:SV} {new:List (Option Vw)} (hX:Fi X 70 [rr n pX pY] (res) new) (H:(x6<x5→((0:Int)≤x6∧x6<((n:Nat):Int))∧Ir x3∧Ir x1∧Ir (x2-(inF x1 pX pY x6.toNat x3))∧Ir (((n:Nat):Int)-1)∧(x6=(((n:Nat):Int)-1)→Ir ((inF x1 pX pY x6.toNat x3)+x3)∧Ir (x3-x3)∧ ∃ q5010:Nat→Int,Ext n2_ g1021 (x3) q5010∧ ∃ q5011:Nat→Int,Ext n2_ g1022 ((inF x1 pX pY x6.toNat x3)) q5011∧ ∃ q5012:Nat→Int,Ext n2_ g1023 (x3) q5012∧ ∃ q5013:Nat→Int,Ext n2_ g1024 (((inF x1 pX pY x6.toNat x3)+x3)) q5013∧ ∃ q5014:Nat→Int,Ext n2_ g1025 ((x3-x3)) q5014∧(n2_+1)*40≤140737488355328∧Ir (x6+1)∧Ok X (ltab_h0 n pX pY x1 x2 (x3-x3) ((inF x1 pX pY x6.toNat x3)+x3) x5 (x6+1) x7 x8 x9 (n2_+1) q5010 q5011 q5012 q5013 q5014))∧(x6≠(((n:Nat):Int)-1)→Ir ((inF x1 pX pY x6.toNat x3)+(mnI (mxI (x2-(inF x1 pX pY x6.toNat x3)) 0) x3))∧Ir (x3-(mnI (mxI (x2-(inF x1 pX pY x6.toNat x3)) 0) x3))∧ ∃ q5010:Nat→Int,Ext n2_ g1021 (x3) q5010∧ ∃ q5011:Nat→Int,Ext n2_ g1022 ((inF x1 pX pY x6.toNat x3)) q5011∧ ∃ q5012:Nat→Int,Ext n2_ g1023 ((mnI (mxI (x2-(inF x1 pX pY x6.toNat x3)) 0) x3)) q5012∧ ∃ q5013:Nat→Int,Ext n2_ g1024 (((inF x1 pX pY x6.toNat x3)+(mnI (mxI (x2-(inF x1 pX pY x6.toNat x3)) 0) x3))) q5013∧ ∃ q5014:Nat→Int,Ext n2_ g1025 ((x3-(mnI (mxI (x2-(inF x1 pX pY x6.toNat x3)) 0) x3))) q5014∧(n2_+1)*40≤140737488355328∧Ir (x6+1)∧Ok X (ltab_h0 n pX pY x1 x2 (x3-(mnI (mxI (x2-(inF x1 pX pY x6.toNat x3)) 0) x3)) ((inF x1 pX pY x6.toNat x3)+(mnI (mxI (x2-(inF x1 pX pY x6.toNat x3)) 0) x3)) x5 (x6+1) x7 x8 x9 (n2_+1) q5010 q5011 q5012 q5013 q5014)))∧(¬x6<x5→(((.tup [.sl 1 n2_,I 0]):SV)=res)∧sameHp [some (.row true 65 n2_ 5 (fun i=>[I (g1021 i),I (g1022 i),I (g1023 i),I (g1024 i),I (g1025 i)]))] new)):
  Ok X (ltab_h0 n pX pY x1 x2 x3 x4 x5 x6 x7 x8 x9 n2_ g1021 g1022 g1023 g1024 g1025):=by
 obtain⟨L0,K0⟩:=H
 by_cases h0:x6<x5
 ·obtain⟨h1,h2,h3,h4,h5,L6,K6⟩:=L0 h0
  refine hX.go [t_ (dt h0),q_ h1,q_ (re n),q_ h1,c_ [] (show S 122 [I x3,I x1, .agg [I (pX x6.toNat),I (pY x6.toNat)]] [] (.tup [I (inF x1 pX pY x6.toNat x3),I ((ofV x3 x1 (pX x6.toNat) (pY x6.toNat)).2)]) []from aOf _ _ h2 h3),q_ h4,q_ h5] ?_
  by_cases h6:x6=(((n:Nat):Int)-1)
  ·obtain⟨h7,h8,q5010,h9,q5011,h10,q5012,h11,q5013,h12,q5014,h13,h14,h15,k⟩:=L6 h6
   exact hX.h 47 [t_ (beq_iff_eq.2 h6),q_ h7,q_ h8,q_ (one_row x3 (inF x1 pX pY x6.toNat x3) x3),q_ (re 1),q_ (re n2_),q_ h14,q_ (ext_row h9 h10 h11 h12 h13),q_ h15,i_,h_ [.row (rwL x3 (inF x1 pX pY x6.toNat x3) x3), .row (fun i=>[I (q5010 i),I (q5011 i),I (q5012 i),I (q5013 i),I (q5014 i)])],d_ 5] [.old 0, .old 1, .old 7] k
  ·obtain⟨h7,h8,q5010,h9,q5011,h10,q5012,h11,q5013,h12,q5014,h13,h14,h15,k⟩:=K6 h6
   exact hX.h 44 [f_ (beq_eq_false_iff_ne.2 h6),q_ h7,q_ h8,q_ (one_row x3 (inF x1 pX pY x6.toNat x3) (mnI (mxI (x2-(inF x1 pX pY x6.toNat x3)) 0) x3)),q_ (re 1),q_ (re n2_),q_ h14,q_ (ext_row h9 h10 h11 h12 h13),q_ h15,i_,h_ [.row (rwL x3 (inF x1 pX pY x6.toNat x3) (mnI (mxI (x2-(inF x1 pX pY x6.toNat x3)) 0) x3)), .row (fun i=>[I (q5010 i),I (q5011 i),I (q5012 i),I (q5013 i),I (q5014 i)])],d_ 5] [.old 0, .old 1, .old 7] k
 ·have HE:=K0 h0
  obtain⟨HE,HN⟩:=HE
  exact((hX.to HE.symm).same HN).e [f_ (df h0)] [2]
theorem mTable {n:Nat} {m r:Int} {pX pY:Nat→Int} (T:Tb n m r pX pY):S 70 [I m,I r, .sl 0 n] [rr n pX pY] (.tup [.sl 1 n,I 0]) [rwV n m r pX pY (lvB n r pX pY (lvP n m r pX pY))]:=by
 have hm:=T.hm
 have hn:=T.n2
 have hp:=lv_bd T
 refine SCall.st fun X hX=>ltab_w0 hX ⟨_,_,mLeast T,fun c=>absurd rfl c,fun _=> ?_⟩
 generalize lvP n m r pX pY=p at hX hp⊢
 have B0:=bk_lv (n:=n) (r:=r) (p:=p) (pX:=pX) (pY:=pY) hm.1
 have loop: ∀ (f j:Nat) {g1 g2 g3 g4 g5:Nat→Int},j+f=n→Agr r pX pY (lvB n r pX pY p) m j g1 g2 g3 g4 g5→Ok X (ltab_h0 n pX pY r p (opF (lvB n r pX pY p) m j) (laF (pyF r pX pY (lvB n r pX pY p) m) j) n j m r p j g1 g2 g3 g4 g5):=by
  intro f
  induction f with
  |zero=>
   intro j g1 g2 g3 g4 g5 hj a
   obtain rfl:j=n:=by omega
   refine ltab_w1 hX ⟨fun q=>absurd q (by omega),fun _=> ?_⟩
   exact⟨rfl,⟨⟨rfl,rfl,rfl,rfl,fun i hi=>by obtain⟨a1,a2,a3,a4,a5⟩:=a i hi;show[I (g1 i),I (g2 i),I (g3 i),I (g4 i),I (g5 i)]=_;rw[a1,a2,a3,a4,a5]⟩,trivial⟩⟩
  |succ f ih=>
   intro j g1 g2 g3 g4 g5 hj a
   obtain⟨b1,b2⟩:=B0 j (by omega)
   obtain⟨o1,o2⟩:=T.f j (by omega) _ b1.1 b1.2
   have e1:opF (lvB n r pX pY p) m (j+1)=opF (lvB n r pX pY p) m j-(lvB n r pX pY p) j (opF (lvB n r pX pY p) m j):=rfl
   have k:=ih (j+1) (by omega) (agr_r (j+1) (r:=r) (pX:=pX) (pY:=pY) (bk:=lvB n r pX pY p) (m:=m))
   have e2:laF (pyF r pX pY (lvB n r pX pY p) m) (j+1)=inF r pX pY j (opF (lvB n r pX pY p) m j)+lvB n r pX pY p j (opF (lvB n r pX pY p) m j):=rfl
   rw[e2]at k
   refine ltab_w1 hX ⟨fun q=> ?_,fun q=>absurd q (by omega)⟩
   rw[Int.toNat_natCast]
   refine⟨by omega,irT (by omega),T.hr,irT (by omega),irT (by omega),fun c=> ?_,fun c=> ?_⟩
   ·have e3:(lvB n r pX pY p) j (opF (lvB n r pX pY p) m j)=opF (lvB n r pX pY p) m j:=if_pos (by omega)
    rw[e1,e3]at k
    exact⟨irT (by omega),irT (by omega),_,agr (fun k hk=>(a k hk).1) rfl,_,agr (fun k hk=>(a k hk).2.1) rfl,_,agr (fun k hk=>(a k hk).2.2.1) e3,_,agr (fun k hk=>(a k hk).2.2.2.1) (by show _+(lvB n r pX pY p) j (opF (lvB n r pX pY p) m j)=_;rw[e3]),_,agr (fun k hk=>(a k hk).2.2.2.2) (by rw[e1,e3]),by omega,irT (by omega),k⟩
   ·have e3:(lvB n r pX pY p) j (opF (lvB n r pX pY p) m j)=mnI (mxI (p-inF r pX pY j (opF (lvB n r pX pY p) m j)) 0) (opF (lvB n r pX pY p) m j):=if_neg (by omega)
    rw[e1,e3]at k
    rw[e3]at b2
    exact⟨irT (by omega),irT (by omega),_,agr (fun k hk=>(a k hk).1) rfl,_,agr (fun k hk=>(a k hk).2.1) rfl,_,agr (fun k hk=>(a k hk).2.2.1) e3,_,agr (fun k hk=>(a k hk).2.2.2.1) (by show _+(lvB n r pX pY p) j (opF (lvB n r pX pY p) m j)=_;rw[e3]),_,agr (fun k hk=>(a k hk).2.2.2.2) (by rw[e1,e3]),by omega,irT (by omega),k⟩
 exact loop n 0 (by omega) (fun k h=>absurd h (Nat.not_lt_zero _))
noncomputable def tof_h0 (n:Nat) (pX:Nat→Int) (pY:Nat→Int) (x1:Int) (x2:Int) (x3:Int) (x4:Int) (x5:Int) (x6:Int) (x7:Int) (x8:Int) (x9:Int) (x10:Int) (n6_:Nat) (g1061:Nat→Int) (g1062:Nat→Int) (g1063:Nat→Int) (g1064:Nat→Int) (g1065:Nat→Int):SC:=
 ⟨[⟨92,slo 77 [(1,I x1),(4, .ptr 3 0),(10,I x2),(11, .ptr 5 0),(12, .fn (.func 125) [] [.ptr 5 0, .ptr 4 0]),(13, .sl 6 n6_),(37, .sl 0 n),(38,I x3),(39,I x4)],[.code (bodyAt Tryz.f92 [1,1,1,1,1,1,0,1,0,0]), .inLoop (bodyAt Tryz.f92 [1,1,1,1,1,1,0,1,0,0]), .inBlock 1, .code (bodyAt Tryz.f92 [1,1,1,1,1,1,1])],{}⟩,⟨68,[none,none,none,none,none,none,none,none,some (.agg [.fn (.func 91) [] []]),some (I x5),some (I x6),some (.sl 0 n),none,none,none],[.inRegion (opsAt Tryz.f68 [1,0]) [4,5,6,7,8], .code (bodyAt Tryz.f68 [1,1])],{}⟩,⟨44,slo 39 [(15,I x7),(16,I x8),(17, .sl 0 n)],[.inRegion (opsAt Tryz.f44 [1,0,1,0,1,0,0]) [3,4,5,6,7], .code (bodyAt Tryz.f44 [1,0,1,0,1,0,1]), .inBlock 0, .code (bodyAt Tryz.f44 [1,1])],{}⟩],[some (.row false 121 n 2 (fun i=>[I (pX i),I (pY i)])),none,none,some (.box true [.fn (.func 91) [] []]),some (.box true [I x9]),some (.box true [I x10]),some (.row true 65 n6_ 5 (fun i=>[I (g1061 i),I (g1062 i),I (g1063 i),I (g1064 i),I (g1065 i)]))]⟩
noncomputable def tof_h1 (n:Nat) (pX:Nat→Int) (pY:Nat→Int) (x1:Int) (x2:Int) (x3:Int) (x4:Int) (x5:Int) (x6:Int) (x7:Int) (x8:Int) (x9:Int) (x10:Int) (n7_:Nat) (g1071:Nat→Int) (g1072:Nat→Int) (g1073:Nat→Int) (g1074:Nat→Int) (g1075:Nat→Int):SC:=
 ⟨[⟨92,slo 77 [(1,I x1),(4, .ptr 4 0),(10,I x2),(11, .ptr 6 0),(12, .fn (.func 125) [] [.ptr 6 0, .ptr 5 0]),(13, .sl 7 n7_),(37, .sl 0 n),(38,I x3),(39,I x4)],[.code (bodyAt Tryz.f92 [1,1,1,1,1,1,0,1,0,0]), .inLoop (bodyAt Tryz.f92 [1,1,1,1,1,1,0,1,0,0]), .inBlock 1, .code (bodyAt Tryz.f92 [1,1,1,1,1,1,1])],{}⟩,⟨69,[none,none,none,none,none,none,none,none,some (.agg [.fn (.func 93) [] []]),some (I x5),some (I x6),some (.sl 0 n),none,none,none],[.inRegion (opsAt Tryz.f69 [1,0]) [4,5,6,7,8], .code (bodyAt Tryz.f69 [1,1])],{}⟩,⟨44,slo 39 [(24,I x7),(25,I x8),(26, .sl 0 n)],[.inRegion (opsAt Tryz.f44 [1,0,1,0,1,1,1,0,0]) [3,4,5,6,7], .code (bodyAt Tryz.f44 [1,0,1,0,1,1,1,0,1]), .inBlock 0, .code (bodyAt Tryz.f44 [1,1])],{}⟩],[some (.row false 121 n 2 (fun i=>[I (pX i),I (pY i)])),none,none,none,some (.box true [.fn (.func 93) [] []]),some (.box true [I x9]),some (.box true [I x10]),some (.row true 65 n7_ 5 (fun i=>[I (g1071 i),I (g1072 i),I (g1073 i),I (g1074 i),I (g1075 i)]))]⟩
theorem tof_w0 {X:Cx} {k m r:Int} {n:Nat} {pX pY:Nat→Int} {res:SV} {new:List (Option Vw)} (hX:Fi X 44 [rr n pX pY] (res) new) (H:SMe Tryz.prog 140 (.agg []) "demurrage/table.number" 286∧(0=k→SAs Tryz.prog (.ifc 140 (.agg [])) 137 140 true (.tup [.agg [],B true])∧ ¬((n:Nat):Int)<1∧ ¬((n:Nat):Int)>1200∧ ¬m<0∧ ¬m>1000000000000000∧Ok X (tof_h0 n pX pY m ((n:Nat):Int) ((n:Nat):Int) 0 m r m r r m 0 (fun _=>default) (fun _=>default) (fun _=>default) (fun _=>default) (fun _=>default)))∧(0≠k→SMe Tryz.prog 142 (.agg []) "demurrage/table.number" 287∧(1=k→SAs Tryz.prog (.ifc 142 (.agg [])) 137 140 true (.tup [.agg [],B false])∧SAs Tryz.prog (.ifc 142 (.agg [])) 137 142 true (.tup [.agg [],B true])∧ ¬((n:Nat):Int)<1∧ ¬((n:Nat):Int)>1200∧ ¬m<0∧ ¬m>1000000000000000∧Ok X (tof_h1 n pX pY m ((n:Nat):Int) ((n:Nat):Int) 0 m r m r r m 0 (fun _=>default) (fun _=>default) (fun _=>default) (fun _=>default) (fun _=>default)))∧(1≠k→SMe Tryz.prog 143 (.agg []) "demurrage/table.number" 288∧2=k∧SAs Tryz.prog (.ifc 143 (.agg [])) 137 140 true (.tup [.agg [],B false])∧SAs Tryz.prog (.ifc 143 (.agg [])) 137 142 true (.tup [.agg [],B false])∧SAs Tryz.prog (.ifc 143 (.agg [])) 137 143 true (.tup [.agg [],B true])∧ ∃ n1:Nat, ∃ g2:Nat→Int, ∃ g3:Nat→Int, ∃ g4:Nat→Int, ∃ g5:Nat→Int, ∃ g6:Nat→Int, ∃ r7:Int,S 70 [I m,I r, .sl 0 n] [rr n pX pY] (.tup [.sl 1 n1,I r7]) [some (.row true 65 n1 5 (fun i=>[I (g2 i),I (g3 i),I (g4 i),I (g5 i),I (g6 i)]))]∧(((.tup [.sl 1 n1,I r7]):SV)=res)∧sameHp [some (.row true 65 n1 5 (fun i=>[I (g2 i),I (g3 i),I (g4 i),I (g5 i),I (g6 i)]))] new))):
  Ok X (entry Tryz.prog 44 [I k,I m,I r, .sl 0 n] [rr n pX pY]):=by
 obtain⟨h0,L1,K1⟩:=H
 refine hX.go [q_ (show ∀ k,k<3→(lrow [[.ifc 140 (.agg [])],[.ifc 142 (.agg [])],[.ifc 143 (.agg [])]]) k=[[.ifc 140 (.agg [])],[.ifc 142 (.agg [])],[.ifc 143 (.agg [])]].getD k []from by intro k hk;match k,hk with|0,_=>rfl|1,_=>rfl|2,_=>rfl|k+3,hk=>omega),i_,h_ [.row (lrow [[.ifc 140 (.agg [])],[.ifc 142 (.agg [])],[.ifc 143 (.agg [])]])],t_ rt,q_ (show(0:Int)≤0∧0<((3:Nat):Int)from by decide),q_ (re 3),q_ (show(0:Int)≤0∧0<((3:Nat):Int)from by decide),q_ h0,h_ [.ext (.fn (.func 286) [] [])],i_] ?_
 by_cases h1:0=k
 ·obtain⟨h2,h3,h4,h5,h6,k⟩:=L1 h1
  exact hX.h 97 [t_ (beq_iff_eq.2 h1),q_ h2,h_ [.ext (.tup [.agg [],B true])],t_ rt,i_,i_,n_ 3 (f_ (df h3)),f_ (df h4),n_ 3 (f_ (df h5)),f_ (df h6)] [.old 0, .old 1001, .old 1002, .old 3, .old 4, .old 5, .nil 5] k
 ·obtain⟨h2,L3,K3⟩:=K1 h1
  refine hX.go [f_ (beq_eq_false_iff_ne.2 h1),q_ (show Ir 1 from by decide),t_ rt,q_ (show(0:Int)≤1∧1<((3:Nat):Int)from by decide),q_ (re 3),q_ (show(0:Int)≤1∧1<((3:Nat):Int)from by decide),q_ h2,h_ [.ext (.fn (.func 287) [] [])],i_] ?_
  by_cases h3:1=k
  ·obtain⟨h4,h5,h6,h7,h8,h9,k⟩:=L3 h3
   exact hX.h 104 [t_ (beq_iff_eq.2 h3),q_ h4,h_ [.ext (.tup [.agg [],B false])],f_ rf,q_ h5,h_ [.ext (.tup [.agg [],B true])],t_ rt,i_,i_,n_ 3 (f_ (df h6)),f_ (df h7),n_ 3 (f_ (df h8)),f_ (df h9)] [.old 0, .old 1001, .old 1002, .old 1003, .old 4, .old 5, .old 6, .nil 5] k
  ·obtain⟨h4,h5,h6,h7,h8,n1,g2,g3,g4,g5,g6,r7,h9,HE⟩:=K3 h3
   obtain⟨HE,HN⟩:=HE
   exact((hX.to HE.symm).same HN).e [f_ (beq_eq_false_iff_ne.2 h3),q_ (show Ir 2 from by decide),t_ rt,q_ (show(0:Int)≤2∧2<((3:Nat):Int)from by decide),q_ (re 3),q_ (show(0:Int)≤2∧2<((3:Nat):Int)from by decide),q_ h4,h_ [.ext (.fn (.func 288) [] [])],i_,t_ (beq_iff_eq.2 h5),q_ h6,h_ [.ext (.tup [.agg [],B false])],f_ rf,q_ h7,h_ [.ext (.tup [.agg [],B false])],f_ rf,q_ h8,h_ [.ext (.tup [.agg [],B true])],t_ rt,c_ [0] h9] [5]
theorem tof_w1 {X:Cx} {n:Nat} {pX pY:Nat→Int} {x1 x2 x3 x4 x5 x6 x7 x8 x9 x10:Int} {n6_:Nat} {g1061 g1062 g1063 g1064 g1065:Nat→Int} {res:SV} {new:List (Option Vw)} (hX:Fi X 44 [rr n pX pY] (res) new) (H:(x4<x3→((0:Int)≤x4∧x4<((n:Nat):Int))∧Ir (x2-1)∧(x4=(x2-1)→Ir x10∧Ir x9∧Ir ((inF x9 pX pY x4.toNat x10)+x10)∧Ir (x10-x10)∧((ofV x10 x9 (pX x4.toNat) (pY x4.toNat)).2)=0∧ ∃ q5011:Nat→Int,Ext n6_ g1061 (x10) q5011∧ ∃ q5012:Nat→Int,Ext n6_ g1062 ((inF x9 pX pY x4.toNat x10)) q5012∧ ∃ q5013:Nat→Int,Ext n6_ g1063 (x10) q5013∧ ∃ q5014:Nat→Int,Ext n6_ g1064 (((inF x9 pX pY x4.toNat x10)+x10)) q5014∧ ∃ q5015:Nat→Int,Ext n6_ g1065 ((x10-x10)) q5015∧(n6_+1)*40≤140737488355328∧Ir (x4+1)∧Ok X (tof_h0 n pX pY x1 x2 x3 (x4+1) x5 x6 x7 x8 x9 (x10-x10) (n6_+1) q5011 q5012 q5013 q5014 q5015))∧(x4≠(x2-1)→Ir x10∧Ir x9∧Ir ((inF x9 pX pY x4.toNat x10)+0)∧Ir (x10-0)∧((ofV x10 x9 (pX x4.toNat) (pY x4.toNat)).2)=0∧ ∃ q5011:Nat→Int,Ext n6_ g1061 (x10) q5011∧ ∃ q5012:Nat→Int,Ext n6_ g1062 ((inF x9 pX pY x4.toNat x10)) q5012∧ ∃ q5013:Nat→Int,Ext n6_ g1063 (0) q5013∧ ∃ q5014:Nat→Int,Ext n6_ g1064 (((inF x9 pX pY x4.toNat x10)+0)) q5014∧ ∃ q5015:Nat→Int,Ext n6_ g1065 ((x10-0)) q5015∧(n6_+1)*40≤140737488355328∧Ir (x4+1)∧Ok X (tof_h0 n pX pY x1 x2 x3 (x4+1) x5 x6 x7 x8 x9 (x10-0) (n6_+1) q5011 q5012 q5013 q5014 q5015)))∧(¬x4<x3→Ir (x2-1)∧((0:Int)≤(x2-1)∧(x2-1)<((n6_:Nat):Int))∧ ¬(g1064 ((x2-1).toNat))>4611686018427387904∧(((.tup [.sl 1 n6_,I 0]):SV)=res)∧sameHp [some (.row true 65 n6_ 5 (fun i=>[I (g1061 i),I (g1062 i),I (g1063 i),I (g1064 i),I (g1065 i)]))] new)):
  Ok X (tof_h0 n pX pY x1 x2 x3 x4 x5 x6 x7 x8 x9 x10 n6_ g1061 g1062 g1063 g1064 g1065):=by
 obtain⟨L0,K0⟩:=H
 by_cases h0:x4<x3
 ·obtain⟨h1,h2,L3,K3⟩:=L0 h0
  refine hX.go [t_ (dt h0),q_ h1,q_ (re n),q_ h1,q_ h2,i_] ?_
  by_cases h3:x4=(x2-1)
  ·obtain⟨h4,h5,h6,h7,h8,q5011,h9,q5012,h10,q5013,h11,q5014,h12,q5015,h13,h14,h15,k⟩:=L3 h3
   exact hX.h 86 [t_ (beq_iff_eq.2 h3),i_,c_ [] (show S 122 [I x10,I x9, .agg [I (pX x4.toNat),I (pY x4.toNat)]] [] (.tup [I (inF x9 pX pY x4.toNat x10),I ((ofV x10 x9 (pX x4.toNat) (pY x4.toNat)).2)]) []from aOf _ _ h4 h5),q_ h6,q_ h7,f_ (bne_eq_false_iff_eq.2 h8),q_ (one_row x10 (inF x9 pX pY x4.toNat x10) x10),q_ (re 1),q_ (re n6_),q_ h14,q_ (ext_row h9 h10 h11 h12 h13),q_ h15,h_ [.row (rwL x10 (inF x9 pX pY x4.toNat x10) x10), .row (fun i=>[I (q5011 i),I (q5012 i),I (q5013 i),I (q5014 i),I (q5015 i)])]] [.old 0, .old 1001, .old 1002, .old 3, .old 4, .old 5, .old 13] k
  ·obtain⟨h4,h5,h6,h7,h8,q5011,h9,q5012,h10,q5013,h11,q5014,h12,q5015,h13,h14,h15,k⟩:=K3 h3
   exact hX.h 83 [f_ (beq_eq_false_iff_ne.2 h3),i_,c_ [] (show S 122 [I x10,I x9, .agg [I (pX x4.toNat),I (pY x4.toNat)]] [] (.tup [I (inF x9 pX pY x4.toNat x10),I ((ofV x10 x9 (pX x4.toNat) (pY x4.toNat)).2)]) []from aOf _ _ h4 h5),q_ h6,q_ h7,f_ (bne_eq_false_iff_eq.2 h8),q_ (one_row x10 (inF x9 pX pY x4.toNat x10) 0),q_ (re 1),q_ (re n6_),q_ h14,q_ (ext_row h9 h10 h11 h12 h13),q_ h15,h_ [.row (rwL x10 (inF x9 pX pY x4.toNat x10) 0), .row (fun i=>[I (q5011 i),I (q5012 i),I (q5013 i),I (q5014 i),I (q5015 i)])]] [.old 0, .old 1001, .old 1002, .old 3, .old 4, .old 5, .old 13] k
 ·obtain⟨h1,h2,h3,HE⟩:=K0 h0
  obtain⟨HE,HN⟩:=HE
  exact((hX.to HE.symm).same HN).e [f_ (df h0),q_ h1,q_ h2,q_ (re n6_),q_ h2,q_ h2,f_ (df h3)] [6]
theorem tof_w2 {X:Cx} {n:Nat} {pX pY:Nat→Int} {x1 x2 x3 x4 x5 x6 x7 x8 x9 x10:Int} {n7_:Nat} {g1071 g1072 g1073 g1074 g1075:Nat→Int} {res:SV} {new:List (Option Vw)} (hX:Fi X 44 [rr n pX pY] (res) new) (H:(x4<x3→((0:Int)≤x4∧x4<((n:Nat):Int))∧(0:Int)≤x1∧(0:Int)<x2∧Ir (x1/x2)∧Ir (x2-1)∧(x4=(x2-1)→Ir x10∧Ir x9∧Ir ((inF x9 pX pY x4.toNat x10)+x10)∧Ir (x10-x10)∧((ofV x10 x9 (pX x4.toNat) (pY x4.toNat)).2)=0∧ ∃ q5011:Nat→Int,Ext n7_ g1071 (x10) q5011∧ ∃ q5012:Nat→Int,Ext n7_ g1072 ((inF x9 pX pY x4.toNat x10)) q5012∧ ∃ q5013:Nat→Int,Ext n7_ g1073 (x10) q5013∧ ∃ q5014:Nat→Int,Ext n7_ g1074 (((inF x9 pX pY x4.toNat x10)+x10)) q5014∧ ∃ q5015:Nat→Int,Ext n7_ g1075 ((x10-x10)) q5015∧(n7_+1)*40≤140737488355328∧Ir (x4+1)∧Ok X (tof_h1 n pX pY x1 x2 x3 (x4+1) x5 x6 x7 x8 x9 (x10-x10) (n7_+1) q5011 q5012 q5013 q5014 q5015))∧(x4≠(x2-1)→Ir x10∧Ir x9∧Ir ((inF x9 pX pY x4.toNat x10)+(x1/x2))∧Ir (x10-(x1/x2))∧((ofV x10 x9 (pX x4.toNat) (pY x4.toNat)).2)=0∧ ∃ q5011:Nat→Int,Ext n7_ g1071 (x10) q5011∧ ∃ q5012:Nat→Int,Ext n7_ g1072 ((inF x9 pX pY x4.toNat x10)) q5012∧ ∃ q5013:Nat→Int,Ext n7_ g1073 ((x1/x2)) q5013∧ ∃ q5014:Nat→Int,Ext n7_ g1074 (((inF x9 pX pY x4.toNat x10)+(x1/x2))) q5014∧ ∃ q5015:Nat→Int,Ext n7_ g1075 ((x10-(x1/x2))) q5015∧(n7_+1)*40≤140737488355328∧Ir (x4+1)∧Ok X (tof_h1 n pX pY x1 x2 x3 (x4+1) x5 x6 x7 x8 x9 (x10-(x1/x2)) (n7_+1) q5011 q5012 q5013 q5014 q5015)))∧(¬x4<x3→Ir (x2-1)∧((0:Int)≤(x2-1)∧(x2-1)<((n7_:Nat):Int))∧ ¬(g1074 ((x2-1).toNat))>4611686018427387904∧(((.tup [.sl 1 n7_,I 0]):SV)=res)∧sameHp [some (.row true 65 n7_ 5 (fun i=>[I (g1071 i),I (g1072 i),I (g1073 i),I (g1074 i),I (g1075 i)]))] new)):
  Ok X (tof_h1 n pX pY x1 x2 x3 x4 x5 x6 x7 x8 x9 x10 n7_ g1071 g1072 g1073 g1074 g1075):=by
 obtain⟨L0,K0⟩:=H
 by_cases h0:x4<x3
 ·obtain⟨h1,h2,h3,h4,h5,L6,K6⟩:=L0 h0
  refine hX.go [t_ (dt h0),q_ h1,q_ (re n),q_ h1,q_ h2,q_ h3,q_ h4,q_ h5,i_] ?_
  by_cases h6:x4=(x2-1)
  ·obtain⟨h7,h8,h9,h10,h11,q5011,h12,q5012,h13,q5013,h14,q5014,h15,q5015,h16,h17,h18,k⟩:=L6 h6
   exact hX.h 86 [t_ (beq_iff_eq.2 h6),i_,c_ [] (show S 122 [I x10,I x9, .agg [I (pX x4.toNat),I (pY x4.toNat)]] [] (.tup [I (inF x9 pX pY x4.toNat x10),I ((ofV x10 x9 (pX x4.toNat) (pY x4.toNat)).2)]) []from aOf _ _ h7 h8),q_ h9,q_ h10,f_ (bne_eq_false_iff_eq.2 h11),q_ (one_row x10 (inF x9 pX pY x4.toNat x10) x10),q_ (re 1),q_ (re n7_),q_ h17,q_ (ext_row h12 h13 h14 h15 h16),q_ h18,h_ [.row (rwL x10 (inF x9 pX pY x4.toNat x10) x10), .row (fun i=>[I (q5011 i),I (q5012 i),I (q5013 i),I (q5014 i),I (q5015 i)])]] [.old 0, .old 1001, .old 1002, .old 1003, .old 4, .old 5, .old 6, .old 14] k
  ·obtain⟨h7,h8,h9,h10,h11,q5011,h12,q5012,h13,q5013,h14,q5014,h15,q5015,h16,h17,h18,k⟩:=K6 h6
   exact hX.h 83 [f_ (beq_eq_false_iff_ne.2 h6),i_,c_ [] (show S 122 [I x10,I x9, .agg [I (pX x4.toNat),I (pY x4.toNat)]] [] (.tup [I (inF x9 pX pY x4.toNat x10),I ((ofV x10 x9 (pX x4.toNat) (pY x4.toNat)).2)]) []from aOf _ _ h7 h8),q_ h9,q_ h10,f_ (bne_eq_false_iff_eq.2 h11),q_ (one_row x10 (inF x9 pX pY x4.toNat x10) (x1/x2)),q_ (re 1),q_ (re n7_),q_ h17,q_ (ext_row h12 h13 h14 h15 h16),q_ h18,h_ [.row (rwL x10 (inF x9 pX pY x4.toNat x10) (x1/x2)), .row (fun i=>[I (q5011 i),I (q5012 i),I (q5013 i),I (q5014 i),I (q5015 i)])]] [.old 0, .old 1001, .old 1002, .old 1003, .old 4, .old 5, .old 6, .old 14] k
 ·obtain⟨h1,h2,h3,HE⟩:=K0 h0
  obtain⟨HE,HN⟩:=HE
  exact((hX.to HE.symm).same HN).e [f_ (df h0),q_ h1,q_ h2,q_ (re n7_),q_ h2,q_ h2,f_ (df h3)] [7]
theorem tof_l0 {X:Cx} {n:Nat} {m r:Int} {pX pY:Nat→Int} (T:Tb n m r pX pY) (hX:Fi X 44 [rr n pX pY] (.tup [.sl 1 n,I 0]) [rwV n m r pX pY (pbB n (0))]): ∀ (f j:Nat) {g1 g2 g3 g4 g5:Nat→Int},j+f=n→Agr r pX pY (pbB n (0)) m j g1 g2 g3 g4 g5→Ok X (tof_h0 n pX pY m n n j m r m r r (opF (pbB n (0)) m j) j g1 g2 g3 g4 g5):=by
  have hm:=T.hm
  have hn:=T.n2
  have hn1:=T.n1
  have B0:Bk n m (pbB n (0)):=bk_pl (Int.le_refl _) (by rw[Int.mul_zero];exact hm.1)
  intro f
  induction f with
  |zero=>
   intro j g1 g2 g3 g4 g5 hj a
   obtain rfl:j=n:=by omega
   refine tof_w1 hX ⟨fun q=>absurd q (by omega),fun _=> ?_⟩
   have z:=B0 (j-1) (by omega)
   have zf:=T.f (j-1) (by omega) _ z.1.1 z.1.2
   rw[show((j:Int)-1).toNat=j-1 by omega,(a (j-1) (by omega)).2.2.2.1]
   refine⟨irT (by omega),by omega, ?_,rfl,⟨⟨rfl,rfl,rfl,rfl,fun i hi=>by obtain⟨a1,a2,a3,a4,a5⟩:=a i hi;show[I (g1 i),I (g2 i),I (g3 i),I (g4 i),I (g5 i)]=_;rw[a1,a2,a3,a4,a5]⟩,trivial⟩⟩
   show¬inF r pX pY (j-1) _+(pbB j (0)) (j-1) _>_
   omega
  |succ f ih=>
   intro j g1 g2 g3 g4 g5 hj a
   obtain⟨b1,b2⟩:=B0 j (by omega)
   obtain⟨o1,o2⟩:=T.f j (by omega) _ b1.1 b1.2
   have e1:opF (pbB n (0)) m (j+1)=opF (pbB n (0)) m j-(pbB n (0)) j (opF (pbB n (0)) m j):=rfl
   have k:=ih (j+1) (by omega) (agr_r (j+1) (r:=r) (pX:=pX) (pY:=pY) (bk:=pbB n (0)) (m:=m))
   refine tof_w1 hX ⟨fun q=> ?_,fun q=>absurd q (by omega)⟩
   rw[Int.toNat_natCast]
   refine⟨by omega,irT (by omega),fun c=> ?_,fun c=> ?_⟩
   ·have e3:(pbB n (0)) j (opF (pbB n (0)) m j)=opF (pbB n (0)) m j:=if_pos (by omega)
    rw[e1,e3]at k
    exact⟨irT (by omega),T.hr,irT (by omega),irT (by omega),o1,_,agr (fun k hk=>(a k hk).1) rfl,_,agr (fun k hk=>(a k hk).2.1) rfl,_,agr (fun k hk=>(a k hk).2.2.1) e3,_,agr (fun k hk=>(a k hk).2.2.2.1) (by show _+(pbB n (0)) j (opF (pbB n (0)) m j)=_;rw[e3]),_,agr (fun k hk=>(a k hk).2.2.2.2) (by rw[e1,e3]),by omega,irT (by omega),k⟩
   ·have e3:(pbB n (0)) j (opF (pbB n (0)) m j)=0:=if_neg (by omega)
    rw[e1,e3]at k
    rw[e3]at b2
    exact⟨irT (by omega),T.hr,irT (by omega),irT (by omega),o1,_,agr (fun k hk=>(a k hk).1) rfl,_,agr (fun k hk=>(a k hk).2.1) rfl,_,agr (fun k hk=>(a k hk).2.2.1) e3,_,agr (fun k hk=>(a k hk).2.2.2.1) (by show _+(pbB n (0)) j (opF (pbB n (0)) m j)=_;rw[e3]),_,agr (fun k hk=>(a k hk).2.2.2.2) (by rw[e1,e3]),by omega,irT (by omega),k⟩
theorem tof_l1 {X:Cx} {n:Nat} {m r:Int} {pX pY:Nat→Int} (T:Tb n m r pX pY) (hX:Fi X 44 [rr n pX pY] (.tup [.sl 1 n,I 0]) [rwV n m r pX pY (pbB n (m/n))]): ∀ (f j:Nat) {g1 g2 g3 g4 g5:Nat→Int},j+f=n→Agr r pX pY (pbB n (m/n)) m j g1 g2 g3 g4 g5→Ok X (tof_h1 n pX pY m n n j m r m r r (opF (pbB n (m/n)) m j) j g1 g2 g3 g4 g5):=by
  have hm:=T.hm
  have hn:=T.n2
  have hn1:=T.n1
  have B0:Bk n m (pbB n (m/n)):=bk_pl (Int.ediv_nonneg hm.1 (by omega)) (Int.mul_ediv_self_le (by omega))
  intro f
  induction f with
  |zero=>
   intro j g1 g2 g3 g4 g5 hj a
   obtain rfl:j=n:=by omega
   refine tof_w2 hX ⟨fun q=>absurd q (by omega),fun _=> ?_⟩
   have z:=B0 (j-1) (by omega)
   have zf:=T.f (j-1) (by omega) _ z.1.1 z.1.2
   rw[show((j:Int)-1).toNat=j-1 by omega,(a (j-1) (by omega)).2.2.2.1]
   refine⟨irT (by omega),by omega, ?_,rfl,⟨⟨rfl,rfl,rfl,rfl,fun i hi=>by obtain⟨a1,a2,a3,a4,a5⟩:=a i hi;show[I (g1 i),I (g2 i),I (g3 i),I (g4 i),I (g5 i)]=_;rw[a1,a2,a3,a4,a5]⟩,trivial⟩⟩
   show¬inF r pX pY (j-1) _+(pbB j (m/j)) (j-1) _>_
   omega
  |succ f ih=>
   intro j g1 g2 g3 g4 g5 hj a
   obtain⟨b1,b2⟩:=B0 j (by omega)
   obtain⟨o1,o2⟩:=T.f j (by omega) _ b1.1 b1.2
   have e1:opF (pbB n (m/n)) m (j+1)=opF (pbB n (m/n)) m j-(pbB n (m/n)) j (opF (pbB n (m/n)) m j):=rfl
   have k:=ih (j+1) (by omega) (agr_r (j+1) (r:=r) (pX:=pX) (pY:=pY) (bk:=pbB n (m/n)) (m:=m))
   refine tof_w2 hX ⟨fun q=> ?_,fun q=>absurd q (by omega)⟩
   rw[Int.toNat_natCast]
   refine⟨by omega,by omega,by omega,irT (by have:=Int.ediv_le_self (n:Int) hm.1;have:=Int.ediv_nonneg hm.1 (show(0:Int)≤(n:Int)by omega);omega),irT (by omega),fun c=> ?_,fun c=> ?_⟩
   ·have e3:(pbB n (m/n)) j (opF (pbB n (m/n)) m j)=opF (pbB n (m/n)) m j:=if_pos (by omega)
    rw[e1,e3]at k
    exact⟨irT (by omega),T.hr,irT (by omega),irT (by omega),o1,_,agr (fun k hk=>(a k hk).1) rfl,_,agr (fun k hk=>(a k hk).2.1) rfl,_,agr (fun k hk=>(a k hk).2.2.1) e3,_,agr (fun k hk=>(a k hk).2.2.2.1) (by show _+(pbB n (m/n)) j (opF (pbB n (m/n)) m j)=_;rw[e3]),_,agr (fun k hk=>(a k hk).2.2.2.2) (by rw[e1,e3]),by omega,irT (by omega),k⟩
   ·have e3:(pbB n (m/n)) j (opF (pbB n (m/n)) m j)=m/n:=if_neg (by omega)
    rw[e1,e3]at k
    rw[e3]at b2
    exact⟨irT (by omega),T.hr,irT (by omega),irT (by omega),o1,_,agr (fun k hk=>(a k hk).1) rfl,_,agr (fun k hk=>(a k hk).2.1) rfl,_,agr (fun k hk=>(a k hk).2.2.1) e3,_,agr (fun k hk=>(a k hk).2.2.2.1) (by show _+(pbB n (m/n)) j (opF (pbB n (m/n)) m j)=_;rw[e3]),_,agr (fun k hk=>(a k hk).2.2.2.2) (by rw[e1,e3]),by omega,irT (by omega),k⟩
theorem mOf {k:Int} {n:Nat} {m r:Int} {pX pY:Nat→Int} (T:Tb n m r pX pY) (hk:0≤k∧k≤2):S 44 [I k,I m,I r, .sl 0 n] [rr n pX pY] (.tup [.sl 1 n,I 0]) [rwV n m r pX pY (bkT k n m r pX pY)]:=by
 have hm:=T.hm
 have hn:=T.n1
 have hn2:=T.n2
 unfold bkT
 refine SCall.st fun X hX=>tof_w0 hX ⟨fun _ _=>by kernel_rfl,fun c=>⟨fun _ _=>by kernel_rfl,by omega,by omega,by omega,by omega, ?_⟩,fun c=>⟨fun _ _=>by kernel_rfl,fun c1=>⟨fun _ _=>by kernel_rfl,fun _ _=>by kernel_rfl,by omega,by omega,by omega,by omega, ?_⟩,fun c1=>⟨fun _ _=>by kernel_rfl,by omega,fun _ _=>by kernel_rfl,fun _ _=>by kernel_rfl,fun _ _=>by kernel_rfl, ?_⟩⟩⟩
 ·rw[if_neg (by omega),if_pos c.symm]at hX
  exact tof_l0 T hX n 0 (by omega) (fun k h=>absurd h (Nat.not_lt_zero _))
 ·rw[if_neg (by omega),if_neg (by omega)]at hX
  exact tof_l1 T hX n 0 (by omega) (fun k h=>absurd h (Nat.not_lt_zero _))
 ·rw[if_pos (by omega)]at hX⊢
  exact⟨_,_,_,_,_,_,_,mTable T,rfl,sameHp.refl _⟩
end Go.Proofs.YtelidogcomffkaaGreatDoor
