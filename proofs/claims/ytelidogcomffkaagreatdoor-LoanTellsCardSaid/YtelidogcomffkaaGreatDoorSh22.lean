/-
The document's example (chapter 22).
-/
import Derived.Test.YtelidogcomffkaaGreatDoorS17
import Derived.Test.YtelidogcomffkaaGreatDoorProg
import Derived.KernelRfl
import Derived.Laws.Externs
set_option linter.unusedSectionVars false
set_option linter.unusedSimpArgs false
set_option linter.unusedVariables false
set_option maxRecDepth 100000
namespace Go.Proofs.YtelidogcomffkaaGreatDoor
def y7 (ad:Int→Int→Int→Int) (R:Nat→Int) (day:Int) (s:Int×Int):Nat→Int×Int
 |0=>s
 |j+1=>if R j>(y7 ad R day s j).2∧R j≤day then(ad (y7 ad R day s j).1 (y7 ad R day s j).2 (R j),R j)else y7 ad R day s j
def Mt (ad:Int→Int→Int→Int) (R:Nat→Int) (n:Nat) (day m:Int) (s:Int×Int):Int×Int:=
 if m>(y7 ad R day s n).2 then(ad (y7 ad R day s n).1 (y7 ad R day s n).2 m,m)else y7 ad R day s n
variable {ad:Int→Int→Int→Int} {R:Nat→Int} {s:Int×Int}
theorem Bk {day:Int} {j:Nat} (h:R j>(y7 ad R day s j).2∧R j≤day):y7 ad R day s (j+1)=(ad (y7 ad R day s j).1 (y7 ad R day s j).2 (R j),R j):=if_pos h
theorem rG {day:Int} {j:Nat} (h: ¬(R j>(y7 ad R day s j).2∧R j≤day)):y7 ad R day s (j+1)=y7 ad R day s j:=if_neg h
structure MQ (g:Int→Int→Int) (R:Nat→Int) (n:Nat) (lo hi:Int):Prop where
 mono: ∀ i j,i≤j→j<n→R i≤R j
 bd: ∀ i,i<n→lo≤R i∧R i≤hi
 nn: ∀ f m,lo≤f→f≤m→m≤hi→0≤g f m
end Go.Proofs.YtelidogcomffkaaGreatDoor
namespace Go.Proofs.YtelidogcomffkaaGreatDoor
open Go Go.Sx
variable [dc]
theorem AX {t:cj} {C:Cl} (h:bF t C=0):fO t=0:=by
 unfold bF at h
 by_cases c:fO t=0
 ·exact c
 ·rw[if_pos c]at h;exact absurd h c
theorem IL {t:cj} {C:Cl} (hs:xk t):uM t C≤250:=by
 unfold uM;split
 ·rename_i h;unfold tK;split
  ·exact(AR (AX h) hs).2
  ·omega
 ·omega
end Go.Proofs.YtelidogcomffkaaGreatDoor
namespace Go.Proofs.YtelidogcomffkaaGreatDoor
open Go Go.Sx
variable [dc]
end Go.Proofs.YtelidogcomffkaaGreatDoor
namespace Go.Proofs.YtelidogcomffkaaGreatDoor
open Go Go.Sx
variable [dc]
end Go.Proofs.YtelidogcomffkaaGreatDoor
namespace Go.Proofs.YtelidogcomffkaaGreatDoor
open Go Go.Sx
variable [dc]
end Go.Proofs.YtelidogcomffkaaGreatDoor
namespace Go.Proofs.YtelidogcomffkaaGreatDoor
open Go Go.Sx
variable [dc]
end Go.Proofs.YtelidogcomffkaaGreatDoor
namespace Go.Proofs.YtelidogcomffkaaGreatDoor
open Go Go.Sx
variable [dc]
structure Ln where
 t:cj
 nd:Nat
 D:Nat→Int
 nr:Nat
 R:Nat→Int
 np:Nat
 X:Nat→Int
 Y:Nat→Int
 eo:Bool
 en:Int
 fq:Int
 nk:Nat
 V:Nat→Int
 op:Int
 du:Int
 fr:Int
 ba:Int
 it:Int
abbrev dK (L:Ln):SV:= .agg [I L.t.a1,I L.t.a2,I L.t.a3,I L.t.a4,I L.t.a5,I L.t.a6,I L.t.a7,B L.t.a8,B L.t.a9,B L.t.ak,I L.t.ah, .sl 0 L.nd, .sl 1 L.nr, .sl 2 L.np,B L.eo,I L.en,I L.fq, .sl 3 L.nk,I L.op,I L.du,I L.fr,I L.ba,I L.it]
abbrev gP (L:Ln):List (Option Vw):=[ri L.nd L.D,ri L.nr L.R,some (.row false 121 L.np 2 (fun i=>[I (L.X i),I (L.Y i)])),ri L.nk L.V]
abbrev rS (x:Int):Int:=IntKind.wrap .i64 x
abbrev Ln.w (L:Ln) (op du fr ba it:Int):Ln:={L with op:=op,du:=du,fr:=fr,ba:=ba,it:=it}
noncomputable def Fq (L:Ln) (a b:Int):Int:=(HC (al L.t.a4 a b L.eo L.en L.fq L.nk L.V) L.op L.t.a2).1
noncomputable def CP (L:Ln) (d f m:Int):Int:=rS (d+Fq L f m)
noncomputable def fP (L:Ln) (day:Int) (j:Nat):Int×Int:=y7 (CP L) L.R day (L.du,L.fr) j
noncomputable def fK (L:Ln) (day:Int):Int×Int:=Mt (CP L) L.R L.nr day (aO day (L.R (L.nr-1))) (L.du,L.fr)
noncomputable def Mi (L:Ln) (a b:Int):Int:=(HC (al L.t.a4 a b L.eo L.en L.fq L.nk L.V) L.op L.t.a2).2
def fV (day:Int):Int:=if ai day=true then 0 else 3
noncomputable def aM (L:Ln) (day:Int):Ln:=L.w L.op (if ai day=true then(fP L day L.nr).1 else L.du) (if ai day=true then(fP L day L.nr).2 else L.fr) L.ba L.it
noncomputable def bZ (L:Ln) (day:Int):Int:=if ai day=true then(fK L day).1 else 0
noncomputable def zw (L:Ln) (day:Int):Int:=if ai day=true then rS ((fK L day).1+L.op)else 0
def gz (L:Ln) (n m:Int):Int:=if ai n=false then 3 else if n<L.fr then 4 else if m<0∨m>9000000000000000000 then 2 else 0
noncomputable def vM (L:Ln) (n m:Int):Int:=if gz L n m=0 then aO m (fK L n).1 else 0
noncomputable def Jx (L:Ln) (n m:Int):Int:=if gz L n m=0 then aO (m-aO m (fK L n).1) L.op else 0
noncomputable def Jw (L:Ln) (n m:Int):Int:=if gz L n m=0 then m-aO m (fK L n).1-aO (m-aO m (fK L n).1) L.op else 0
noncomputable def Jv (L:Ln) (n m:Int):Ln:=
 L.w (if gz L n m=0 then L.op-aO (m-aO m (fK L n).1) L.op else L.op) (if gz L n m=0 then(fK L n).1-aO m (fK L n).1 else L.du)
  (if gz L n m=0 then(fK L n).2 else L.fr) (if gz L n m=0 then L.ba+aO (m-aO m (fK L n).1) L.op else L.ba) (if gz L n m=0 then L.it+aO m (fK L n).1 else L.it)
def KI (L:Ln) (n m:Int):Prop:=gz L n m=0→Ir (m-aO m (fK L n).1)∧Ir ((fK L n).1-aO m (fK L n).1)∧Ir (m-aO m (fK L n).1-aO (m-aO m (fK L n).1) L.op)∧Ir (L.op-aO (m-aO m (fK L n).1) L.op)∧
 Ir (L.it+aO m (fK L n).1)∧Ir (L.ba+aO (m-aO m (fK L n).1) L.op)
noncomputable def oL (t:cj) (C:Cl):Ln:=⟨t,eA t C,tD t,eA t C,fun i=>(tR t C i).1,eA t C-1,fun i=>(tP t C i).1,fun i=>(tP t C i).2.1,DL t C,DK t C,DJ t C,uM t C,fun i=>(tQ t C i).1,t.a1,0,(tR t C 0).1,0,0⟩
structure MT (t:cj) (C:Cl):Prop where
 s:xk t
 h:bF t C=0
 m:t.a6-t.a5≤1116
structure Good (t:cj) (C:Cl) (U:Int) (L:Ln):Prop where
 tt:L.t=t
 nr:L.nr=tN t
 R:L.R=fun i=>(tR t C i).1
 eo:L.eo=t.ak
 en:L.en=tE t C
 fq:L.fq=br t.a7
 nk:L.nk=tK t
 V:L.V=fun i=>(tQ t C i).1
 op:0≤L.op∧L.op≤t.a1
 du:0≤L.du∧L.du≤U
 fr:(tR t C 0).1≤L.fr∧L.fr≤tE t C
theorem EK {t:cj} (h:fO t=0):t.a2≤1000000:=by
 unfold fO rQ at h
 split at h
 ·cases h
 ·split at h
  ·cases h
  ·split at h
   ·cases h
   ·omega
theorem Gu {t:cj} (h:fO t=0):0≤t.a1∧t.a1≤1000000000000000∧0≤t.a2∧t.a1*t.a2≤9000000000000000000:=by
 unfold fO rQ at h
 split at h
 ·cases h
 ·split at h
  ·cases h
  ·split at h
   ·cases h
   ·omega
def Fj (x y:Ln):Prop:=x=y∧x.nd≤10000∧x.nr≤10000∧x.nk≤10000∧x.np≤10000
end Go.Proofs.YtelidogcomffkaaGreatDoor
namespace Go.Proofs.YtelidogcomffkaaGreatDoor
open Go Go.Sx
variable [dc]
theorem IU {a1:Int} {res:SV} (H:(B ((cE a1)==0):SV)=res):
  S 34 [I a1] [] (res) []:=by
 refine ab.st fun X hX=> ?_
 have HE:=H
 exact(hX.to HE.symm).e [c_ [] (fg a1)]
theorem D0 (n:Int):S 34 [I n] [] (B (ai n)) []:=by
 refine IU ?_
 unfold cE
 rcases aq (ai n)with h|h
 all_goals simp_all
theorem Eb (L:Ln) (a b:Int) (h1:Ir L.op) (h2:Ir L.t.a2):S 89 [.agg [I L.t.a1,I L.t.a2,I L.t.a3,I L.t.a4,I L.t.a5,I L.t.a6,I L.t.a7,B L.t.a8,B L.t.a9,B L.t.ak,I L.t.ah], .agg [B L.eo,I L.en,I L.fq, .sl 0 L.nk],I L.op,I a,I b] [ri L.nk L.V] (.af [I (Fq L a b),I (Mi L a b)]) []:=LU h1 h2
noncomputable def pI (L:Ln) (a1:Int) (x1:Int) (x2:Int) (x3:Int):SC:=
 ⟨[⟨38,bJ 33 [(0, .ptr 6 0),(1,I a1),(11, .sl 1 L.nr),(12,I ((L.nr:Nat):Int)),(13,I x1)],[.code (aa Tryz.f38 [1,0,0]), .inLoop (aa Tryz.f38 [1,0,0]), .inBlock 0],{}⟩,⟨17,bJ 21 [(4, .ptr 5 0),(6, .ptr 6 0),(14, .ptr 6 0),(15,I a1)],[.inRegion (aU Tryz.f17 [1,1,1,0]) [2], .code (aa Tryz.f17 [1,1,1,1])],{}⟩],[some (.row false 3 L.nd 1 (fun i=>[I (L.D i)])),some (.row false 3 L.nr 1 (fun i=>[I (L.R i)])),some (.row false 121 L.np 2 (fun i=>[I (L.X i),I (L.Y i)])),some (.row false 3 L.nk 1 (fun i=>[I (L.V i)])),none,some (.box true [I 0,I 0,I 0,I 0,I 0,I 0,I 0,B false,B false,B false,I 0, .val (.slice none 0 0), .val (.slice none 0 0), .val (.slice none 0 0),B false,I 0,I 0, .val (.slice none 0 0),I 0,I 0,I 0,I 0,I 0]),some (.box true [I L.t.a1,I L.t.a2,I L.t.a3,I L.t.a4,I L.t.a5,I L.t.a6,I L.t.a7,B (L.t.a8),B (L.t.a9),B (L.t.ak),I L.t.ah, .sl 0 L.nd, .sl 1 L.nr, .sl 2 L.np,B (L.eo),I L.en,I L.fq, .sl 3 L.nk,I L.op,I x2,I x3,I L.ba,I L.it])]⟩
theorem IX {X:Cx} {L:Ln} {a1:Int} {res:SV} (hX:Fi X 17 (gP L) (res) []) (H:((ai a1)=false→((.af [dK L,I 3]):SV)=res)∧((ai a1)=true→Ok X (pI L a1 0 L.du L.fr))):
  Ok X (entry Tryz.prog 17 [dK L,I a1] (gP L)):=by
 obtain⟨L0,K0⟩:=H
 refine hX.go [c_ [] (D0 a1)] ?_
 rcases aq (ai a1)with h0|h0
 ·have k:=K0 h0
  exact hX.h 27 [f_ (nf h0),i_] [.ae 0, .ae 1, .ae 2, .ae 3, .ae 1004, .ae 5, .ae 6] k
 ·have HE:=L0 h0
  exact(hX.to HE.symm).e [t_ (nt h0)]
theorem D_ {X:Cx} {L:Ln} {a1 x1 x2 x3:Int} {res:SV} (hX:Fi X 17 (gP L) (res) []) (H:(x1<((L.nr:Nat):Int)→((0:Int)≤x1∧x1<((L.nr:Nat):Int))∧((L.R x1.toNat)>x3→((L.R x1.toNat)≤a1→Ir L.op∧Ir L.t.a2∧Ir (x1+1)∧Ok X (pI L a1 (x1+1) (CP L x2 x3 (L.R x1.toNat)) (L.R x1.toNat)))∧(¬(L.R x1.toNat)≤a1→Ir (x1+1)∧Ok X (pI L a1 (x1+1) x2 x3)))∧(¬(L.R x1.toNat)>x3→Ir (x1+1)∧Ok X (pI L a1 (x1+1) x2 x3)))∧(¬x1<((L.nr:Nat):Int)→((.af [dK (Ln.w L L.op x2 x3 L.ba L.it),I 0]):SV)=res)):
  Ok X (pI L a1 x1 x2 x3):=by
 obtain⟨L0,K0⟩:=H
 by_cases h0:x1<((L.nr:Nat):Int)
 ·obtain⟨h1,L2,K2⟩:=L0 h0
  refine hX.go [t_ (dt h0),q_ h1,q_ (show L.nr=L.nr from rfl),q_ h1] ?_
  by_cases h2:(L.R x1.toNat)>x3
  ·obtain⟨L3,K3⟩:=L2 h2
   refine hX.go [n_ 4 (t_ (dt h2))] ?_
   by_cases h3:(L.R x1.toNat)≤a1
   ·obtain⟨h4,h5,h6,k⟩:=L3 h3
    exact hX.h 37 [t_ (dt h3),i_,d_ 27,c_ [3] (Eb L x3 (L.R x1.toNat) h4 h5),q_ h6,h_ [.w]] [.ae 0, .ae 1, .ae 2, .ae 3, .ae 1004, .ae 5, .ae 6] k
   ·obtain⟨h4,k⟩:=K3 h3
    exact hX.h 8 [f_ (df h3),q_ h4] [.ae 0, .ae 1, .ae 2, .ae 3, .ae 1004, .ae 5, .ae 6] k
  ·obtain⟨h3,k⟩:=K2 h2
   exact hX.h 13 [n_ 4 (f_ (df h2)),f_ rf,q_ h3] [.ae 0, .ae 1, .ae 2, .ae 3, .ae 1004, .ae 5, .ae 6] k
 ·have HE:=K0 h0
  exact(hX.to HE.symm).e [f_ (df h0)]
theorem Ki {X:Cx} {L:Ln} {n:Int} (hX:Fi X 17 (gP L) (.af [dK (aM L n),I (fV n)]) []) (hd:ai n=true) (hr:L.nr≤100000) (hop:Ir L.op) (hra:Ir L.t.a2):
  ∀ (f j:Nat),L.nr=j+f→Ok X (pI L n j (fP L n j).1 (fP L n j).2):=by
 intro f
 induction f with
 |zero=>
  intro j hj
  have ej:j=L.nr:=by omega
  subst ej
  refine D_ hX ⟨fun q=>absurd q (by omega),fun _=> ?_⟩
  unfold aM fV
  grind
 |succ f ih=>
  intro j hj
  have k:Ok X (pI L n ((j:Int)+1) (fP L n (j+1)).1 (fP L n (j+1)).2):=ih (j+1) (by omega)
  refine D_ hX ⟨fun q=> ?_,fun q=>absurd q (by omega)⟩
  rw[Int.toNat_natCast]
  refine⟨by omega,fun c1=>⟨fun c2=>⟨hop,hra,aT (by omega), ?_⟩,fun c2=>⟨aT (by omega), ?_⟩⟩,fun c1=>⟨aT (by omega), ?_⟩⟩
  ·rw[show fP L n (j+1)=(CP L (fP L n j).1 (fP L n j).2 (L.R j),L.R j)from Bk ⟨c1,c2⟩]at k;exact k
  ·rw[show fP L n (j+1)=fP L n j from rG (fun q=>c2 q.2)]at k;exact k
  ·rw[show fP L n (j+1)=fP L n j from rG (fun q=>c1 q.1)]at k;exact k
theorem Mg (L:Ln) (n:Int) (hn:1≤L.nr∧L.nr≤100000) (h1:Ir L.op) (h2:Ir L.t.a2):S 17 [dK L,I n] (gP L) (.af [dK (aM L n),I (fV n)]) []:=by
 refine ab.st fun X hX=>IX hX ⟨fun c=> ?_,fun c=>Ki hX c hn.2 h1 h2 L.nr 0 (by omega)⟩
 unfold aM fV
 simp_all
noncomputable def gF (L:Ln) (a1:Int) (x1:Int) (x2:Int) (x3:Int):SC:=
 ⟨[⟨38,bJ 33 [(0, .ptr 5 0),(1,I a1),(11, .sl 1 L.nr),(12,I ((L.nr:Nat):Int)),(13,I x1)],[.code (aa Tryz.f38 [1,0,0]), .inLoop (aa Tryz.f38 [1,0,0]), .inBlock 0],{}⟩,⟨35,bJ 22 [(0, .ptr 5 0),(1,I a1),(5, .ptr 5 0),(6,I a1)],[.inRegion (aU Tryz.f35 [0]) [2], .code (aa Tryz.f35 [1])],{}⟩,⟨19,bJ 21 [(6, .ptr 5 0),(13, .ptr 5 0),(14,I a1)],[.inRegion (aU Tryz.f19 [1,1,1,0]) [2], .code (aa Tryz.f19 [1,1,1,1])],{}⟩],[some (.row false 3 L.nd 1 (fun i=>[I (L.D i)])),some (.row false 3 L.nr 1 (fun i=>[I (L.R i)])),some (.row false 121 L.np 2 (fun i=>[I (L.X i),I (L.Y i)])),some (.row false 3 L.nk 1 (fun i=>[I (L.V i)])),none,some (.box true [I L.t.a1,I L.t.a2,I L.t.a3,I L.t.a4,I L.t.a5,I L.t.a6,I L.t.a7,B (L.t.a8),B (L.t.a9),B (L.t.ak),I L.t.ah, .sl 0 L.nd, .sl 1 L.nr, .sl 2 L.np,B (L.eo),I L.en,I L.fq, .sl 3 L.nk,I L.op,I x2,I x3,I L.ba,I L.it])]⟩
theorem D9 {X:Cx} {L:Ln} {a1:Int} {res:SV} (hX:Fi X 19 (gP L) (res) []) (H:((ai a1)=false→((.af [I 0,I 3]):SV)=res)∧((ai a1)=true→Ok X (gF L a1 0 L.du L.fr))):
  Ok X (entry Tryz.prog 19 [dK L,I a1] (gP L)):=by
 obtain⟨L0,K0⟩:=H
 refine hX.go [c_ [] (D0 a1)] ?_
 rcases aq (ai a1)with h0|h0
 ·have k:=K0 h0
  exact hX.h 32 [f_ (nf h0),i_,i_] [.ae 0, .ae 1, .ae 2, .ae 3, .ae 1004, .ae 5] k
 ·have HE:=L0 h0
  exact(hX.to HE.symm).e [t_ (nt h0)]
theorem yw {X:Cx} {L:Ln} {a1 x1 x2 x3:Int} {res:SV} (hX:Fi X 19 (gP L) (res) []) (H:(x1<((L.nr:Nat):Int)→((0:Int)≤x1∧x1<((L.nr:Nat):Int))∧((L.R x1.toNat)>x3→((L.R x1.toNat)≤a1→Ir L.op∧Ir L.t.a2∧Ir (x1+1)∧Ok X (gF L a1 (x1+1) (CP L x2 x3 (L.R x1.toNat)) (L.R x1.toNat)))∧(¬(L.R x1.toNat)≤a1→Ir (x1+1)∧Ok X (gF L a1 (x1+1) x2 x3)))∧(¬(L.R x1.toNat)>x3→Ir (x1+1)∧Ok X (gF L a1 (x1+1) x2 x3)))∧(¬x1<((L.nr:Nat):Int)→Ir (((L.nr:Nat):Int)-1)∧((0:Int)≤(((L.nr:Nat):Int)-1)∧(((L.nr:Nat):Int)-1)<((L.nr:Nat):Int))∧((aO a1 (L.R ((((L.nr:Nat):Int)-1).toNat)))>x3→Ir L.op∧Ir L.t.a2∧((.af [I (IntKind.wrap .i64 (x2+(Fq L x3 (aO a1 (L.R ((((L.nr:Nat):Int)-1).toNat)))))),I 0]):SV)=res)∧(¬(aO a1 (L.R ((((L.nr:Nat):Int)-1).toNat)))>x3→((.af [I x2,I 0]):SV)=res))):
  Ok X (gF L a1 x1 x2 x3):=by
 obtain⟨L0,K0⟩:=H
 by_cases h0:x1<((L.nr:Nat):Int)
 ·obtain⟨h1,L2,K2⟩:=L0 h0
  refine hX.go [t_ (dt h0),q_ h1,q_ (show L.nr=L.nr from rfl),q_ h1] ?_
  by_cases h2:(L.R x1.toNat)>x3
  ·obtain⟨L3,K3⟩:=L2 h2
   refine hX.go [n_ 4 (t_ (dt h2))] ?_
   by_cases h3:(L.R x1.toNat)≤a1
   ·obtain⟨h4,h5,h6,k⟩:=L3 h3
    exact hX.h 37 [t_ (dt h3),i_,d_ 27,c_ [3] (Eb L x3 (L.R x1.toNat) h4 h5),q_ h6,h_ [.w]] [.ae 0, .ae 1, .ae 2, .ae 3, .ae 1004, .ae 5] k
   ·obtain⟨h4,k⟩:=K3 h3
    exact hX.h 8 [f_ (df h3),q_ h4] [.ae 0, .ae 1, .ae 2, .ae 3, .ae 1004, .ae 5] k
  ·obtain⟨h3,k⟩:=K2 h2
   exact hX.h 13 [n_ 4 (f_ (df h2)),f_ rf,q_ h3] [.ae 0, .ae 1, .ae 2, .ae 3, .ae 1004, .ae 5] k
 ·obtain⟨h1,h2,L3,K3⟩:=K0 h0
  refine hX.go [f_ (df h0),q_ h1,q_ h2,q_ (show L.nr=L.nr from rfl),q_ h2,i_,d_ 14] ?_
  by_cases h3:(aO a1 (L.R ((((L.nr:Nat):Int)-1).toNat)))>x3
  ·obtain⟨h4,h5,HE⟩:=L3 h3
   exact(hX.to HE.symm).e [t_ (dt h3),i_,d_ 27,c_ [3] (Eb L x3 (aO a1 (L.R ((((L.nr:Nat):Int)-1).toNat))) h4 h5),h_ [.w]]
  ·have HE:=K3 h3
   exact(hX.to HE.symm).e [f_ (df h3)]
theorem Gc {X:Cx} {L:Ln} {n:Int} (hX:Fi X 19 (gP L) (.af [I (bZ L n),I (fV n)]) []) (hd:ai n=true) (hn:1≤L.nr) (hr:L.nr≤100000) (hop:Ir L.op) (hra:Ir L.t.a2):
  ∀ (f j:Nat),L.nr=j+f→Ok X (gF L n j (fP L n j).1 (fP L n j).2):=by
 intro f
 induction f with
 |zero=>
  intro j hj
  have ej:j=L.nr:=by omega
  subst ej
  refine yw hX ⟨fun q=>absurd q (by omega),fun _=> ?_⟩
  have e1:((L.nr:Int)-1).toNat=L.nr-1:=by omega
  rw[e1]
  have eo:bZ L n=(fK L n).1:=if_pos hd
  have eg:fV n=0:=if_pos hd
  rw[eo,eg]
  refine⟨aT (by omega),by omega,fun c=>⟨hop,hra, ?_⟩,fun c=> ?_⟩
  ·rw[show fK L n=(CP L (fP L n L.nr).1 (fP L n L.nr).2 (aO n (L.R (L.nr-1))),aO n (L.R (L.nr-1)))from if_pos c];rfl
  ·rw[show fK L n=fP L n L.nr from if_neg c]
 |succ f ih=>
  intro j hj
  have k:Ok X (gF L n ((j:Int)+1) (fP L n (j+1)).1 (fP L n (j+1)).2):=ih (j+1) (by omega)
  refine yw hX ⟨fun q=> ?_,fun q=>absurd q (by omega)⟩
  rw[Int.toNat_natCast]
  refine⟨by omega,fun c1=>⟨fun c2=>⟨hop,hra,aT (by omega), ?_⟩,fun c2=>⟨aT (by omega), ?_⟩⟩,fun c1=>⟨aT (by omega), ?_⟩⟩
  ·rw[show fP L n (j+1)=(CP L (fP L n j).1 (fP L n j).2 (L.R j),L.R j)from Bk ⟨c1,c2⟩]at k;exact k
  ·rw[show fP L n (j+1)=fP L n j from rG (fun q=>c2 q.2)]at k;exact k
  ·rw[show fP L n (j+1)=fP L n j from rG (fun q=>c1 q.1)]at k;exact k
theorem Bz (L:Ln) (n:Int) (hn:1≤L.nr∧L.nr≤100000) (h1:Ir L.op) (h2:Ir L.t.a2):S 19 [dK L,I n] (gP L) (.af [I (bZ L n),I (fV n)]) []:=by
 refine ab.st fun X hX=>D9 hX ⟨fun c=> ?_,fun c=>Gc hX c hn.1 hn.2 h1 h2 L.nr 0 (by omega)⟩
 unfold bZ fV
 simp_all
theorem D7 {L:Ln} {a1:Int} {res:SV} (H:(1≤L.nr∧L.nr≤100000)∧Ir L.op∧Ir L.t.a2∧((fV a1)≠0→((.af [I 0,I (fV a1)]):SV)=res)∧((fV a1)=0→((.af [I (IntKind.wrap .i64 ((bZ L a1)+L.op)),I 0]):SV)=res)):
  S 21 [dK L,I a1] (gP L) (res) []:=by
 refine ab.st fun X hX=> ?_
 obtain⟨h0,h1,h2,L3,K3⟩:=H
 refine hX.go [c_ [0,1,2,3] (Bz L a1 h0 h1 h2)] ?_
 by_cases h3:(fV a1)=0
 ·have HE:=K3 h3
  exact(hX.to HE.symm).e [f_ (bne_eq_false_iff_eq.2 h3),h_ [.w]]
 ·have HE:=L3 h3
  exact(hX.to HE.symm).e [t_ (bne_iff_ne.2 h3)]
theorem zO (L:Ln) (n:Int) (hn:1≤L.nr∧L.nr≤100000) (h1:Ir L.op) (h2:Ir L.t.a2):S 21 [dK L,I n] (gP L) (.af [I (zw L n),I (fV n)]) []:=by
 refine D7 ⟨hn,h1,h2,fun c=> ?_,fun c=> ?_⟩
 ·have: ¬ai n=true:=fun q=>c (if_pos q)
  unfold zw;rw[if_neg this]
 ·have:ai n=true:=by
   apply Classical.byContradiction
   intro q
   unfold fV at c;rw[if_neg q]at c;cases c
  unfold zw bZ;rw[if_pos this,if_pos this,c]
abbrev Mf (L:Ln):SV:= .agg [I L.t.a1,I L.t.a2,I L.t.a3,I L.t.a4,I L.t.a5,I L.t.a6,I L.t.a7,B L.t.a8,B L.t.a9,B L.t.ak,I L.t.ah, .sl 4 L.nd, .sl 5 L.nr, .sl 6 L.np,B L.eo,I L.en,I L.fq, .sl 7 L.nk,I L.op,I L.du,I L.fr,I L.ba,I L.it]
noncomputable def y6 (L:Ln) (n m:Int):Int:=if gz L n m=0 then aO (rS (m-aO m (fK L n).1)) L.op else 0
noncomputable def y5 (L:Ln) (n m:Int):Int:=if gz L n m=0 then rS (rS (m-aO m (fK L n).1)-aO (rS (m-aO m (fK L n).1)) L.op)else 0
noncomputable def jz (L:Ln) (n m:Int):Ln:=
 L.w (if gz L n m=0 then rS (L.op-aO (rS (m-aO m (fK L n).1)) L.op)else L.op) (if gz L n m=0 then rS ((fK L n).1-aO m (fK L n).1)else L.du)
  (if gz L n m=0 then(fK L n).2 else L.fr) (if gz L n m=0 then rS (L.ba+aO (rS (m-aO m (fK L n).1)) L.op)else L.ba) (if gz L n m=0 then rS (L.it+aO m (fK L n).1)else L.it)
noncomputable abbrev F1 (L:Ln) (n m:Int):SV:= .af [dK (jz L n m), .agg [I (gz L n m),I (vM L n m),I (y6 L n m),I (y5 L n m)]]
theorem rE {L:Ln} {n m k:Int} (h:gz L n m=k) (hk:k≠0):((.af [dK L, .agg [I k,I 0,I 0,I 0]]):SV)=F1 L n m:=by
 have h:gz L n m≠0:=by rw[h];exact hk
 unfold F1 jz vM y6 y5
 rw[if_neg h,if_neg h,if_neg h,if_neg h,if_neg h,if_neg h,if_neg h,if_neg h]
 simp_all
theorem tj {L:Ln} {n m a b f:Int} (he:gz L n m=0) (ha:a=aO m (fK L n).1) (hb:b=aO (rS (m-a)) L.op) (hf:f=(fK L n).2):
  ((.af [dK (Ln.w L (rS (L.op-b)) (rS ((fK L n).1-a)) f (rS (L.ba+b)) (rS (L.it+a))), .agg [I 0,I a,I b,I (rS (rS (m-a)-b))]]):SV)=F1 L n m:=by
 subst hf;subst hb;subst ha
 unfold F1 jz vM y6 y5
 rw[if_pos he,if_pos he,if_pos he,if_pos he,if_pos he,if_pos he,if_pos he,if_pos he,he]
noncomputable def pH (L:Ln) (a1:Int) (a2:Int) (x1:Int) (x2:Int) (x3:Int):SC:=
 ⟨[⟨38,bJ 33 [(0, .ptr 8 0),(1,I a1),(11, .sl 1 L.nr),(12,I ((L.nr:Nat):Int)),(13,I x1)],[.code (aa Tryz.f38 [1,0,0]), .inLoop (aa Tryz.f38 [1,0,0]), .inBlock 0],{}⟩,⟨35,bJ 22 [(0, .ptr 8 0),(1,I a1),(5, .ptr 8 0),(6,I a1)],[.inRegion (aU Tryz.f35 [0]) [2], .code (aa Tryz.f35 [1])],{}⟩,⟨15,bJ 83 [(5, .ptr 5 0),(6, .ptr 6 0),(7, .ptr 7 0),(8, .ptr 8 0),(37, .ptr 8 0),(38,I a1)],[.inRegion (aU Tryz.f15 [1,1,1,0]) [2], .code (aa Tryz.f15 [1,1,1,1])],{}⟩],[some (.row false 3 L.nd 1 (fun i=>[I (L.D i)])),some (.row false 3 L.nr 1 (fun i=>[I (L.R i)])),some (.row false 121 L.np 2 (fun i=>[I (L.X i),I (L.Y i)])),some (.row false 3 L.nk 1 (fun i=>[I (L.V i)])),none,some (.box true [I a2]),some (.box true [I 0,I 0,I 0,I 0,I 0,I 0,I 0,B false,B false,B false,I 0, .val (.slice none 0 0), .val (.slice none 0 0), .val (.slice none 0 0),B false,I 0,I 0, .val (.slice none 0 0),I 0,I 0,I 0,I 0,I 0]),some (.box true [I 0,I 0,I 0,I 0]),some (.box true [I L.t.a1,I L.t.a2,I L.t.a3,I L.t.a4,I L.t.a5,I L.t.a6,I L.t.a7,B (L.t.a8),B (L.t.a9),B (L.t.ak),I L.t.ah, .sl 0 L.nd, .sl 1 L.nr, .sl 2 L.np,B (L.eo),I L.en,I L.fq, .sl 3 L.nk,I L.op,I x2,I x3,I L.ba,I L.it])]⟩
noncomputable def wO (L:Ln) (a2:Int) (x1:Int) (x2:Int):SC:=
 ⟨[⟨15,bJ 83 [(5, .ptr 5 0),(6, .ptr 6 0),(7, .ptr 7 0),(8, .ptr 8 0)],[.code (aa Tryz.f15 [1,1,1,1])],{}⟩],[some (.row false 3 L.nd 1 (fun i=>[I (L.D i)])),some (.row false 3 L.nr 1 (fun i=>[I (L.R i)])),some (.row false 121 L.np 2 (fun i=>[I (L.X i),I (L.Y i)])),some (.row false 3 L.nk 1 (fun i=>[I (L.V i)])),none,some (.box true [I a2]),some (.box true [I 0,I 0,I 0,I 0,I 0,I 0,I 0,B false,B false,B false,I 0, .val (.slice none 0 0), .val (.slice none 0 0), .val (.slice none 0 0),B false,I 0,I 0, .val (.slice none 0 0),I 0,I 0,I 0,I 0,I 0]),some (.box true [I 0,I 0,I 0,I 0]),some (.box true [I L.t.a1,I L.t.a2,I L.t.a3,I L.t.a4,I L.t.a5,I L.t.a6,I L.t.a7,B (L.t.a8),B (L.t.a9),B (L.t.ak),I L.t.ah, .sl 0 L.nd, .sl 1 L.nr, .sl 2 L.np,B (L.eo),I L.en,I L.fq, .sl 3 L.nk,I L.op,I x1,I x2,I L.ba,I L.it])]⟩
theorem IW {X:Cx} {L:Ln} {a1 a2:Int} {res:SV} (hX:Fi X 15 (gP L) (res) []) (H:((ai a1)=false→((.af [dK L, .agg [I 3,I 0,I 0,I 0]]):SV)=res)∧((ai a1)=true→(a1<L.fr→((.af [dK L, .agg [I 4,I 0,I 0,I 0]]):SV)=res)∧(¬a1<L.fr→(a2<0→((.af [dK L, .agg [I 2,I 0,I 0,I 0]]):SV)=res)∧(¬a2<0→(a2>9000000000000000000→((.af [dK L, .agg [I 2,I 0,I 0,I 0]]):SV)=res)∧(¬a2>9000000000000000000→Ok X (pH L a1 a2 0 L.du L.fr)))))):
  Ok X (entry Tryz.prog 15 [dK L,I a1,I a2] (gP L)):=by
 obtain⟨L0,K0⟩:=H
 refine hX.go [c_ [] (D0 a1)] ?_
 rcases aq (ai a1)with h0|h0
 ·obtain⟨L1,K1⟩:=K0 h0
  refine hX.go [f_ (nf h0)] ?_
  by_cases h1:a1<L.fr
  ·have HE:=L1 h1
   exact(hX.to HE.symm).e [t_ (dt h1)]
  ·obtain⟨L2,K2⟩:=K1 h1
   refine hX.go [f_ (df h1)] ?_
   by_cases h2:a2<0
   ·have HE:=L2 h2
    exact(hX.to HE.symm).e [n_ 3 (t_ (dt h2)),t_ rt]
   ·obtain⟨L3,K3⟩:=K2 h2
    refine hX.go [n_ 3 (f_ (df h2))] ?_
    by_cases h3:a2>9000000000000000000
    ·have HE:=L3 h3
     exact(hX.to HE.symm).e [t_ (dt h3)]
    ·have k:=K3 h3
     exact hX.h 33 [f_ (df h3),i_,i_] [.ae 0, .ae 1, .ae 2, .ae 3, .ae 1004, .ae 5, .ae 6, .ae 7, .ae 8] k
 ·have HE:=L0 h0
  exact(hX.to HE.symm).e [t_ (nt h0)]
theorem D8 {X:Cx} {L:Ln} {a1 a2 x1 x2 x3:Int} {res:SV} (hX:Fi X 15 (gP L) (res) []) (H:(x1<((L.nr:Nat):Int)→((0:Int)≤x1∧x1<((L.nr:Nat):Int))∧((L.R x1.toNat)>x3→((L.R x1.toNat)≤a1→Ir L.op∧Ir L.t.a2∧Ir (x1+1)∧Ok X (pH L a1 a2 (x1+1) (CP L x2 x3 (L.R x1.toNat)) (L.R x1.toNat)))∧(¬(L.R x1.toNat)≤a1→Ir (x1+1)∧Ok X (pH L a1 a2 (x1+1) x2 x3)))∧(¬(L.R x1.toNat)>x3→Ir (x1+1)∧Ok X (pH L a1 a2 (x1+1) x2 x3)))∧(¬x1<((L.nr:Nat):Int)→Ir (((L.nr:Nat):Int)-1)∧((0:Int)≤(((L.nr:Nat):Int)-1)∧(((L.nr:Nat):Int)-1)<((L.nr:Nat):Int))∧((aO a1 (L.R ((((L.nr:Nat):Int)-1).toNat)))>x3→Ir L.op∧Ir L.t.a2∧Ok X (wO L a2 (IntKind.wrap .i64 (x2+(Fq L x3 (aO a1 (L.R ((((L.nr:Nat):Int)-1).toNat)))))) (aO a1 (L.R ((((L.nr:Nat):Int)-1).toNat)))))∧(¬(aO a1 (L.R ((((L.nr:Nat):Int)-1).toNat)))>x3→Ok X (wO L a2 x2 x3)))):
  Ok X (pH L a1 a2 x1 x2 x3):=by
 obtain⟨L0,K0⟩:=H
 by_cases h0:x1<((L.nr:Nat):Int)
 ·obtain⟨h1,L2,K2⟩:=L0 h0
  refine hX.go [t_ (dt h0),q_ h1,q_ (show L.nr=L.nr from rfl),q_ h1] ?_
  by_cases h2:(L.R x1.toNat)>x3
  ·obtain⟨L3,K3⟩:=L2 h2
   refine hX.go [n_ 4 (t_ (dt h2))] ?_
   by_cases h3:(L.R x1.toNat)≤a1
   ·obtain⟨h4,h5,h6,k⟩:=L3 h3
    exact hX.h 37 [t_ (dt h3),i_,d_ 27,c_ [3] (Eb L x3 (L.R x1.toNat) h4 h5),q_ h6,h_ [.w]] [.ae 0, .ae 1, .ae 2, .ae 3, .ae 1004, .ae 5, .ae 6, .ae 7, .ae 8] k
   ·obtain⟨h4,k⟩:=K3 h3
    exact hX.h 8 [f_ (df h3),q_ h4] [.ae 0, .ae 1, .ae 2, .ae 3, .ae 1004, .ae 5, .ae 6, .ae 7, .ae 8] k
  ·obtain⟨h3,k⟩:=K2 h2
   exact hX.h 13 [n_ 4 (f_ (df h2)),f_ rf,q_ h3] [.ae 0, .ae 1, .ae 2, .ae 3, .ae 1004, .ae 5, .ae 6, .ae 7, .ae 8] k
 ·obtain⟨h1,h2,L3,K3⟩:=K0 h0
  refine hX.go [f_ (df h0),q_ h1,q_ h2,q_ (show L.nr=L.nr from rfl),q_ h2,i_,d_ 14] ?_
  by_cases h3:(aO a1 (L.R ((((L.nr:Nat):Int)-1).toNat)))>x3
  ·obtain⟨h4,h5,k⟩:=L3 h3
   exact hX.h 33 [t_ (dt h3),i_,d_ 27,c_ [3] (Eb L x3 (aO a1 (L.R ((((L.nr:Nat):Int)-1).toNat))) h4 h5),h_ [.w]] [.ae 0, .ae 1, .ae 2, .ae 3, .ae 1004, .ae 5, .ae 6, .ae 7, .ae 8] k
  ·have k:=K3 h3
   exact hX.h 4 [f_ (df h3)] [.ae 0, .ae 1, .ae 2, .ae 3, .ae 1004, .ae 5, .ae 6, .ae 7, .ae 8] k
theorem IV {X:Cx} {L:Ln} {a2 x1 x2:Int} {res:SV} (hX:Fi X 15 (gP L) (res) []) (H:((.af [.agg [I L.t.a1,I L.t.a2,I L.t.a3,I L.t.a4,I L.t.a5,I L.t.a6,I L.t.a7,B (L.t.a8),B (L.t.a9),B (L.t.ak),I L.t.ah, .sl 0 L.nd, .sl 1 L.nr, .sl 2 L.np,B (L.eo),I L.en,I L.fq, .sl 3 L.nk,I (IntKind.wrap .i64 (L.op-(aO (IntKind.wrap .i64 (a2-(aO a2 x1))) L.op))),I (IntKind.wrap .i64 (x1-(aO a2 x1))),I x2,I (IntKind.wrap .i64 (L.ba+(aO (IntKind.wrap .i64 (a2-(aO a2 x1))) L.op))),I (IntKind.wrap .i64 (L.it+(aO a2 x1)))], .agg [I 0,I (aO a2 x1),I (aO (IntKind.wrap .i64 (a2-(aO a2 x1))) L.op),I (IntKind.wrap .i64 ((IntKind.wrap .i64 (a2-(aO a2 x1)))-(aO (IntKind.wrap .i64 (a2-(aO a2 x1))) L.op)))]]):SV)=res):
  Ok X (wO L a2 x1 x2):=by
 have HE:=H
 exact(hX.to HE.symm).e [n_ 3 (q_ (show(.ptr 8 19:SV)= .ptr 8 19 from rfl)),q_ (re (I x1)),q_ (show(I (aO a2 x1):SV)=I (aO a2 x1)from rfl),q_ (show(I (IntKind.wrap .i64 (x1-(aO a2 x1))):SV)=I (IntKind.wrap .i64 (x1-(aO a2 x1)))from rfl),n_ 3 (q_ (show(.ptr 8 19:SV)= .ptr 8 19 from rfl)),q_ (re (I x1)),q_ (show(I (aO a2 x1):SV)=I (aO a2 x1)from rfl),q_ (show(I (IntKind.wrap .i64 (x1-(aO a2 x1))):SV)=I (IntKind.wrap .i64 (x1-(aO a2 x1)))from rfl),n_ 3 (q_ (show(.ptr 8 18:SV)= .ptr 8 18 from rfl)),q_ (show(I L.op:SV)=I L.op from rfl),q_ (show(I (aO (IntKind.wrap .i64 (a2-(aO a2 x1))) L.op):SV)=I (aO (IntKind.wrap .i64 (a2-(aO a2 x1))) L.op)from rfl),q_ (show(I (IntKind.wrap .i64 (L.op-(aO (IntKind.wrap .i64 (a2-(aO a2 x1))) L.op))):SV)=I (IntKind.wrap .i64 (L.op-(aO (IntKind.wrap .i64 (a2-(aO a2 x1))) L.op)))from rfl),n_ 3 (q_ (show(.ptr 8 18:SV)= .ptr 8 18 from rfl)),q_ (show(I L.op:SV)=I L.op from rfl),q_ (show(I (aO (IntKind.wrap .i64 (a2-(aO a2 x1))) L.op):SV)=I (aO (IntKind.wrap .i64 (a2-(aO a2 x1))) L.op)from rfl),q_ (show(I (IntKind.wrap .i64 (L.op-(aO (IntKind.wrap .i64 (a2-(aO a2 x1))) L.op))):SV)=I (IntKind.wrap .i64 (L.op-(aO (IntKind.wrap .i64 (a2-(aO a2 x1))) L.op)))from rfl),q_ (show(.ptr 8 0:SV)= .ptr 8 0 from rfl),q_ (show(I (aO (IntKind.wrap .i64 (a2-(aO a2 x1))) L.op):SV)=I (aO (IntKind.wrap .i64 (a2-(aO a2 x1))) L.op)from rfl),q_ (show(I (IntKind.wrap .i64 (L.ba+(aO (IntKind.wrap .i64 (a2-(aO a2 x1))) L.op))):SV)=I (IntKind.wrap .i64 (L.ba+(aO (IntKind.wrap .i64 (a2-(aO a2 x1))) L.op)))from rfl),q_ (show(.ptr 8 0:SV)= .ptr 8 0 from rfl),q_ (show(I (aO (IntKind.wrap .i64 (a2-(aO a2 x1))) L.op):SV)=I (aO (IntKind.wrap .i64 (a2-(aO a2 x1))) L.op)from rfl),q_ (show(I (IntKind.wrap .i64 (L.ba+(aO (IntKind.wrap .i64 (a2-(aO a2 x1))) L.op))):SV)=I (IntKind.wrap .i64 (L.ba+(aO (IntKind.wrap .i64 (a2-(aO a2 x1))) L.op)))from rfl),q_ (show(I (aO a2 x1):SV)=I (aO a2 x1)from rfl),q_ (show(I (aO (IntKind.wrap .i64 (a2-(aO a2 x1))) L.op):SV)=I (aO (IntKind.wrap .i64 (a2-(aO a2 x1))) L.op)from rfl),q_ (show(I (IntKind.wrap .i64 ((IntKind.wrap .i64 (a2-(aO a2 x1)))-(aO (IntKind.wrap .i64 (a2-(aO a2 x1))) L.op))):SV)=I (IntKind.wrap .i64 ((IntKind.wrap .i64 (a2-(aO a2 x1)))-(aO (IntKind.wrap .i64 (a2-(aO a2 x1))) L.op)))from rfl),q_ (show(.agg [I 0,I (aO a2 x1),I (aO (IntKind.wrap .i64 (a2-(aO a2 x1))) L.op),I (IntKind.wrap .i64 ((IntKind.wrap .i64 (a2-(aO a2 x1)))-(aO (IntKind.wrap .i64 (a2-(aO a2 x1))) L.op)))]:SV)= .agg [I 0,I (aO a2 x1),I (aO (IntKind.wrap .i64 (a2-(aO a2 x1))) L.op),I (IntKind.wrap .i64 ((IntKind.wrap .i64 (a2-(aO a2 x1)))-(aO (IntKind.wrap .i64 (a2-(aO a2 x1))) L.op)))]from rfl),q_ (show(I (aO a2 x1):SV)=I (aO a2 x1)from rfl),q_ (show(I (aO (IntKind.wrap .i64 (a2-(aO a2 x1))) L.op):SV)=I (aO (IntKind.wrap .i64 (a2-(aO a2 x1))) L.op)from rfl),q_ (show(I (IntKind.wrap .i64 ((IntKind.wrap .i64 (a2-(aO a2 x1)))-(aO (IntKind.wrap .i64 (a2-(aO a2 x1))) L.op))):SV)=I (IntKind.wrap .i64 ((IntKind.wrap .i64 (a2-(aO a2 x1)))-(aO (IntKind.wrap .i64 (a2-(aO a2 x1))) L.op)))from rfl),q_ (show(.agg [I 0,I (aO a2 x1),I (aO (IntKind.wrap .i64 (a2-(aO a2 x1))) L.op),I (IntKind.wrap .i64 ((IntKind.wrap .i64 (a2-(aO a2 x1)))-(aO (IntKind.wrap .i64 (a2-(aO a2 x1))) L.op)))]:SV)= .agg [I 0,I (aO a2 x1),I (aO (IntKind.wrap .i64 (a2-(aO a2 x1))) L.op),I (IntKind.wrap .i64 ((IntKind.wrap .i64 (a2-(aO a2 x1)))-(aO (IntKind.wrap .i64 (a2-(aO a2 x1))) L.op)))]from rfl),i_,d_ 4,h_ [.draw 9 [0,4,5,6,7,8] 65, .w, .w],i_,d_ 4,h_ [.draw 9 [0,4,5,6,7,8] 65, .w, .w, .draw 19 [1,14,15] 65, .w, .w, .draw 8 [4,5,6,7] 1]]
theorem Kh {X:Cx} {L:Ln} {n m:Int} (hX:Fi X 15 (gP L) (F1 L n m) []) (he:gz L n m=0) (hn:1≤L.nr) (hr:L.nr≤100000) (hop:Ir L.op) (hra:Ir L.t.a2):
  ∀ (f j:Nat),L.nr=j+f→Ok X (pH L n m j (fP L n j).1 (fP L n j).2):=by
 intro f
 induction f with
 |zero=>
  intro j hj
  have ej:j=L.nr:=by omega
  subst ej
  refine D8 hX ⟨fun q=>absurd q (by omega),fun _=> ?_⟩
  have e1:((L.nr:Int)-1).toNat=L.nr-1:=by omega
  rw[e1]
  have fin:Ok X (wO L m (fK L n).1 (fK L n).2):=IV hX (tj he rfl rfl rfl)
  refine⟨aT (by omega),by omega,fun c=>⟨hop,hra, ?_⟩,fun c=> ?_⟩
  ·rw[show fK L n=(CP L (fP L n L.nr).1 (fP L n L.nr).2 (aO n (L.R (L.nr-1))),aO n (L.R (L.nr-1)))from if_pos c]at fin;exact fin
  ·rw[show fK L n=fP L n L.nr from if_neg c]at fin;exact fin
 |succ f ih=>
  intro j hj
  have k:Ok X (pH L n m ((j:Int)+1) (fP L n (j+1)).1 (fP L n (j+1)).2):=ih (j+1) (by omega)
  refine D8 hX ⟨fun q=> ?_,fun q=>absurd q (by omega)⟩
  rw[Int.toNat_natCast]
  refine⟨by omega,fun c1=>⟨fun c2=>⟨hop,hra,aT (by omega), ?_⟩,fun c2=>⟨aT (by omega), ?_⟩⟩,fun c1=>⟨aT (by omega), ?_⟩⟩
  ·rw[show fP L n (j+1)=(CP L (fP L n j).1 (fP L n j).2 (L.R j),L.R j)from Bk ⟨c1,c2⟩]at k;exact k
  ·rw[show fP L n (j+1)=fP L n j from rG (fun q=>c2 q.2)]at k;exact k
  ·rw[show fP L n (j+1)=fP L n j from rG (fun q=>c1 q.1)]at k;exact k
theorem Hr (L:Ln) (n m:Int) (hn:1≤L.nr∧L.nr≤100000) (h1:Ir L.op) (h2:Ir L.t.a2):S 15 [dK L,I n,I m] (gP L) (F1 L n m) []:=by
 refine ab.st fun X hX=>IW hX ⟨fun c=>rE (if_pos c) (by decide),fun c=>⟨fun c1=>rE (k:=4) ?_ (by decide),fun c1=>⟨fun c2=>rE (k:=2) ?_ (by decide),fun c2=>⟨fun c3=>rE (k:=2) ?_ (by decide),fun c3=> ?_⟩⟩⟩⟩
 ·unfold gz;rw[if_neg (by rw[c];decide),if_pos c1]
 ·unfold gz;rw[if_neg (by rw[c];decide),if_neg c1,if_pos (.inl c2)]
 ·unfold gz;rw[if_neg (by rw[c];decide),if_neg c1,if_pos (.inr c3)]
 ·exact Kh hX (by unfold gz;rw[if_neg (by rw[c];decide),if_neg c1,if_neg (by omega)]) hn.1 hn.2 h1 h2 L.nr 0 (by omega)
theorem Mc {L:Ln} {n m:Int} (h:gz L n m≠0):Jv L n m=L∧vM L n m=0∧Jx L n m=0∧Jw L n m=0:=by
 unfold Jv vM Jx Jw
 simp_all
theorem Lx (L:Ln) (n m:Int) (hn:1≤L.nr∧L.nr≤100000) (h1:Ir L.op) (h2:Ir L.t.a2) (hp:KI L n m):S 15 [dK L,I n,I m] (gP L) (.af [dK (Jv L n m), .agg [I (gz L n m),I (vM L n m),I (Jx L n m),I (Jw L n m)]]) []:=by
 have e:F1 L n m= .af [dK (Jv L n m), .agg [I (gz L n m),I (vM L n m),I (Jx L n m),I (Jw L n m)]]:=by
  unfold F1 jz y6 y5 Jv Jx Jw
  by_cases he:gz L n m=0
  ·obtain⟨q1,q2,q3,q4,q5,q6⟩:=hp he
   simp only[if_pos he,rS,bG q1,bG q2,bG q3,bG q4,bG q5,bG q6]
  ·simp only[if_neg he]
 rw[←e]
 exact Hr L n m hn h1 h2
end Go.Proofs.YtelidogcomffkaaGreatDoor
namespace Go.Proofs.YtelidogcomffkaaGreatDoor
open Go Go.Sx
variable [dc]
end Go.Proofs.YtelidogcomffkaaGreatDoor
namespace Go.Proofs.YtelidogcomffkaaGreatDoor
open Go Go.Sx
variable [dc]
theorem Lm (L:Ln) (a b:Int) (h1:Ir L.op) (h2:Ir L.t.a2):S 63 [.agg [I L.t.a1,I L.t.a2,I L.t.a3,I L.t.a4,I L.t.a5,I L.t.a6,I L.t.a7,B L.t.a8,B L.t.a9,B L.t.ak,I L.t.ah], .agg [B L.eo,I L.en,I L.fq, .sl 0 L.nk],I L.op,I a,I b] [ri L.nk L.V] (.af [I (Fq L a b),I (Mi L a b)]) []:=Jt h1 h2
theorem uR {L:Ln} {a1 a2:Int} {res:SV} (H:Ir L.op∧Ir L.t.a2∧(I (Fq L a1 a2):SV)=res):
  S 39 [dK L,I a1,I a2] (gP L) (res) []:=by
 refine ab.st fun X hX=> ?_
 obtain⟨h0,h1,HE⟩:=H
 exact(hX.to HE.symm).e [c_ [3] (Lm L a1 a2 h0 h1)]
theorem Dy (L:Ln) (a b:Int) (h1:Ir L.op) (h2:Ir L.t.a2):S 39 [dK L,I a,I b] (gP L) (I (Fq L a b)) []:=uR ⟨h1,h2,rfl⟩
noncomputable def iM (L:Ln) (a1:Int) (x1:Int) (x2:Int) (x3:Int):SC:=
 ⟨[⟨18,bJ 49 [(1,I a1),(2, .ptr 4 0),(4, .ptr 5 0),(7,I x1)],[.code (aa Tryz.f18 [1,1,1,0,1,0,0]), .inLoop (aa Tryz.f18 [1,1,1,0,1,0,0]), .inBlock 0, .code (aa Tryz.f18 [1,1,1,1])],{}⟩],[some (.row false 3 L.nd 1 (fun i=>[I (L.D i)])),some (.row false 3 L.nr 1 (fun i=>[I (L.R i)])),some (.row false 121 L.np 2 (fun i=>[I (L.X i),I (L.Y i)])),some (.row false 3 L.nk 1 (fun i=>[I (L.V i)])),some (.box true [I L.t.a1,I L.t.a2,I L.t.a3,I L.t.a4,I L.t.a5,I L.t.a6,I L.t.a7,B (L.t.a8),B (L.t.a9),B (L.t.ak),I L.t.ah, .sl 0 L.nd, .sl 1 L.nr, .sl 2 L.np,B (L.eo),I L.en,I L.fq, .sl 3 L.nk,I L.op,I x2,I x3,I L.ba,I L.it]),some (.box true [I 0,I 0,I 0,I 0,I 0,I 0,I 0,B false,B false,B false,I 0, .val (.slice none 0 0), .val (.slice none 0 0), .val (.slice none 0 0),B false,I 0,I 0, .val (.slice none 0 0),I 0,I 0,I 0,I 0,I 0])]⟩
theorem Dz {X:Cx} {L:Ln} {a1:Int} {res:SV} (hX:Fi X 18 (gP L) (res) []) (H:((ai a1)=false→((.af [dK L,I 3]):SV)=res)∧((ai a1)=true→Ok X (iM L a1 0 L.du L.fr))):
  Ok X (entry Tryz.prog 18 [dK L,I a1] (gP L)):=by
 obtain⟨L0,K0⟩:=H
 refine hX.go [c_ [] (dk a1)] ?_
 rcases aq (ai a1)with h0|h0
 ·have k:=K0 h0
  exact hX.h 9 [f_ (nf h0)] (aA 6) k
 ·have HE:=L0 h0
  exact(hX.to HE.symm).e [t_ (nt h0)]
theorem yd {X:Cx} {L:Ln} {a1 x1 x2 x3:Int} {res:SV} (hX:Fi X 18 (gP L) (res) []) (H:(x1<((L.nr:Nat):Int)→((0:Int)≤x1∧x1<((L.nr:Nat):Int))∧((L.R x1.toNat)>x3→((L.R x1.toNat)≤a1→Ir (Ln.w L L.op x2 x3 L.ba L.it).op∧Ir (Ln.w L L.op x2 x3 L.ba L.it).t.a2∧Ok X (iM L a1 (IntKind.wrap .i64 (x1+1)) (IntKind.wrap .i64 (x2+(Fq (Ln.w L L.op x2 x3 L.ba L.it) x3 (L.R x1.toNat)))) (L.R x1.toNat)))∧(¬(L.R x1.toNat)≤a1→Ok X (iM L a1 (IntKind.wrap .i64 (x1+1)) x2 x3)))∧(¬(L.R x1.toNat)>x3→Ok X (iM L a1 (IntKind.wrap .i64 (x1+1)) x2 x3)))∧(¬x1<((L.nr:Nat):Int)→((.af [dK (Ln.w L L.op x2 x3 L.ba L.it),I 0]):SV)=res)):
  Ok X (iM L a1 x1 x2 x3):=by
 obtain⟨L0,K0⟩:=H
 by_cases h0:x1<((L.nr:Nat):Int)
 ·obtain⟨h1,L2,K2⟩:=L0 h0
  refine hX.go [t_ (dt h0),q_ h1,q_ (show L.nr=L.nr from rfl),q_ h1] ?_
  by_cases h2:(L.R x1.toNat)>x3
  ·obtain⟨L3,K3⟩:=L2 h2
   refine hX.go [n_ 4 (t_ (dt h2))] ?_
   by_cases h3:(L.R x1.toNat)≤a1
   ·obtain⟨h4,h5,k⟩:=L3 h3
    exact hX.h 19 [t_ (dt h3),d_ 7,c_ [0,1,2,3] (Dy (Ln.w L L.op x2 x3 L.ba L.it) x3 (L.R x1.toNat) h4 h5),h_ [.w, .w]] (aA 6) k
   ·have k:=K3 h3
    exact hX.h 9 [f_ (df h3),h_ [.w]] (aA 6) k
  ·have k:=K2 h2
   exact hX.h 14 [n_ 4 (f_ (df h2)),f_ rf,h_ [.w]] (aA 6) k
 ·have HE:=K0 h0
  exact(hX.to HE.symm).e [f_ (df h0)]
theorem FX {X:Cx} {L:Ln} {n:Int} (hX:Fi X 18 (gP L) (.af [dK (aM L n),I (fV n)]) []) (hd:ai n=true) (hr:L.nr≤100000) (hop:Ir L.op) (hra:Ir L.t.a2):
  ∀ (f j:Nat),L.nr=j+f→Ok X (iM L n j (fP L n j).1 (fP L n j).2):=by
 intro f
 induction f with
 |zero=>
  intro j hj
  have ej:j=L.nr:=by omega
  subst ej
  refine yd hX ⟨fun q=>absurd q (by omega),fun _=> ?_⟩
  unfold aM fV
  rw[if_pos hd,if_pos hd,if_pos hd]
 |succ f ih=>
  intro j hj
  have k:=ih (j+1) (by omega)
  have e1:IntKind.wrap .i64 ((j:Int)+1)=((j+1:Nat):Int):=bG (by simp only[aj];omega)
  refine yd hX ⟨fun q=> ?_,fun q=>absurd q (by omega)⟩
  rw[Int.toNat_natCast,e1]
  refine⟨by omega,fun c1=>⟨fun c2=>⟨hop,hra, ?_⟩,fun c2=> ?_⟩,fun c1=> ?_⟩
  ·rw[show fP L n (j+1)=(CP L (fP L n j).1 (fP L n j).2 (L.R j),L.R j)from Bk ⟨c1,c2⟩]at k;exact k
  ·rw[show fP L n (j+1)=fP L n j from rG (fun q=>c2 q.2)]at k;exact k
  ·rw[show fP L n (j+1)=fP L n j from rG (fun q=>c1 q.1)]at k;exact k
theorem DA (L:Ln) (n:Int) (hn:L.nr≤100000) (h1:Ir L.op) (h2:Ir L.t.a2):S 18 [dK L,I n] (gP L) (.af [dK (aM L n),I (fV n)]) []:=by
 refine ab.st fun X hX=>Dz hX ⟨fun c=> ?_,fun c=>FX hX c hn h1 h2 L.nr 0 (by omega)⟩
 unfold aM fV
 rw[if_neg (by rw[c];decide),if_neg (by rw[c];decide),if_neg (by rw[c];decide)]
theorem GN {L:Ln} {n:Int} (hd:ai n=true):fK L n=if aO n (L.R (L.nr-1))>(aM L n).fr then(CP L (aM L n).du (aM L n).fr (aO n (L.R (L.nr-1))),aO n (L.R (L.nr-1)))else((aM L n).du,(aM L n).fr):=by
 unfold aM
 rw[if_pos hd,if_pos hd];rfl
theorem BF {n:Int}:fV n=0↔ai n=true:=by
 unfold fV;split
 ·rename_i h;exact⟨fun _=>h,fun _=>rfl⟩
 ·rename_i h;exact⟨fun c=>absurd c (by decide),fun c=>absurd c h⟩
theorem Ci {L:Ln} {a1:Int} {res:SV} (H:L.nr≤100000∧Ir L.op∧Ir L.t.a2∧((fV a1)≠0→((.af [I 0,I (fV a1)]):SV)=res)∧((fV a1)=0→Ir (((L.nr:Nat):Int)-1)∧((0:Int)≤(((L.nr:Nat):Int)-1)∧(((L.nr:Nat):Int)-1)<((L.nr:Nat):Int))∧((L.R ((((L.nr:Nat):Int)-1).toNat))<a1→((L.R ((((L.nr:Nat):Int)-1).toNat))≤((aM L a1).fr)→((.af [I ((aM L a1).du),I 0]):SV)=res)∧(¬(L.R ((((L.nr:Nat):Int)-1).toNat))≤((aM L a1).fr)→Ir (aM L a1).op∧Ir (aM L a1).t.a2∧((.af [I (IntKind.wrap .i64 (((aM L a1).du)+(Fq (aM L a1) ((aM L a1).fr) (L.R ((((L.nr:Nat):Int)-1).toNat))))),I 0]):SV)=res))∧(¬(L.R ((((L.nr:Nat):Int)-1).toNat))<a1→(a1≤((aM L a1).fr)→((.af [I ((aM L a1).du),I 0]):SV)=res)∧(¬a1≤((aM L a1).fr)→Ir (aM L a1).op∧Ir (aM L a1).t.a2∧((.af [I (IntKind.wrap .i64 (((aM L a1).du)+(Fq (aM L a1) ((aM L a1).fr) a1))),I 0]):SV)=res)))):
  S 20 [dK L,I a1] (gP L) (res) []:=by
 refine ab.st fun X hX=> ?_
 obtain⟨h0,h1,h2,L3,K3⟩:=H
 refine hX.go [c_ [0,1,2,3] (DA L a1 h0 h1 h2)] ?_
 by_cases h3:(fV a1)=0
 ·obtain⟨h4,h5,L6,K6⟩:=K3 h3
  refine hX.go [f_ (bne_eq_false_iff_eq.2 h3),q_ h4,q_ h5,q_ (show L.nr=L.nr from rfl),q_ h5,i_] ?_
  by_cases h6:(L.R ((((L.nr:Nat):Int)-1).toNat))<a1
  ·obtain⟨L7,K7⟩:=L6 h6
   refine hX.go [t_ (dt h6),q_ h4,q_ h5,q_ (show L.nr=L.nr from rfl),q_ h5,i_] ?_
   by_cases h7:(L.R ((((L.nr:Nat):Int)-1).toNat))≤((aM L a1).fr)
   ·have HE:=L7 h7
    exact(hX.to HE.symm).e [t_ (dt h7)]
   ·obtain⟨h8,h9,HE⟩:=K7 h7
    exact(hX.to HE.symm).e [f_ (df h7),d_ 7,c_ [0,1,2,3] (Dy (aM L a1) ((aM L a1).fr) (L.R ((((L.nr:Nat):Int)-1).toNat)) h8 h9),h_ [.w]]
  ·obtain⟨L7,K7⟩:=K6 h6
   refine hX.go [f_ (df h6)] ?_
   by_cases h7:a1≤((aM L a1).fr)
   ·have HE:=L7 h7
    exact(hX.to HE.symm).e [t_ (dt h7)]
   ·obtain⟨h8,h9,HE⟩:=K7 h7
    exact(hX.to HE.symm).e [f_ (df h7),d_ 7,c_ [0,1,2,3] (Dy (aM L a1) ((aM L a1).fr) a1 h8 h9),h_ [.w]]
 ·have HE:=L3 h3
  exact(hX.to HE.symm).e [t_ (bne_iff_ne.2 h3)]
theorem sg (L:Ln) (n:Int) (hn:1≤L.nr∧L.nr≤100000) (h1:Ir L.op) (h2:Ir L.t.a2):S 20 [dK L,I n] (gP L) (.af [I (bZ L n),I (fV n)]) []:=by
 refine Ci ⟨hn.2,h1,h2,fun c=> ?_,fun c=> ?_⟩
 ·rw[show bZ L n=0 from if_neg (fun q=>c (BF.2 q))]
 ·have hd:=BF.1 c
  rw[show bZ L n=(fK L n).1 from if_pos hd,GN hd,c,show(((L.nr:Nat):Int)-1).toNat=L.nr-1 by omega]
  refine⟨aT (by omega),by omega,fun q=> ?_,fun q=> ?_⟩
  ·rw[show aO n (L.R (L.nr-1))=L.R (L.nr-1)from if_pos q]
   exact⟨fun r=>by rw[if_neg (by omega)],fun r=>⟨h1,h2,by rw[if_pos (by omega)];rfl⟩⟩
  ·rw[show aO n (L.R (L.nr-1))=n from if_neg q]
   exact⟨fun r=>by rw[if_neg (by omega)],fun r=>⟨h1,h2,by rw[if_pos (by omega)];rfl⟩⟩
theorem zv {L:Ln} {a1:Int} {res:SV} (H:(1≤L.nr∧L.nr≤100000)∧Ir L.op∧Ir L.t.a2∧((fV a1)≠0→((.af [I 0,I (fV a1)]):SV)=res)∧((fV a1)=0→((.af [I (IntKind.wrap .i64 ((bZ L a1)+L.op)),I 0]):SV)=res)):
  S 22 [dK L,I a1] (gP L) (res) []:=by
 refine ab.st fun X hX=> ?_
 obtain⟨h0,h1,h2,L3,K3⟩:=H
 refine hX.go [c_ [0,1,2,3] (sg L a1 h0 h1 h2)] ?_
 by_cases h3:(fV a1)=0
 ·have HE:=K3 h3
  exact(hX.to HE.symm).e [f_ (bne_eq_false_iff_eq.2 h3),h_ [.w]]
 ·have HE:=L3 h3
  exact(hX.to HE.symm).e [t_ (bne_iff_ne.2 h3)]
theorem x_ (L:Ln) (n:Int) (hn:1≤L.nr∧L.nr≤100000) (h1:Ir L.op) (h2:Ir L.t.a2):S 22 [dK L,I n] (gP L) (.af [I (zw L n),I (fV n)]) []:=by
 refine zv ⟨hn,h1,h2,fun c=> ?_,fun c=> ?_⟩
 ·rw[show zw L n=0 from if_neg (fun q=>c (BF.2 q))]
 ·have hd:=BF.1 c
  rw[show zw L n=rS ((fK L n).1+L.op)from if_pos hd,show bZ L n=(fK L n).1 from if_pos hd,c]
theorem Dt {L:Ln} {a1 a2:Int} {res:SV} (H:((ai a1)=false→((.af [dK L, .agg [I 3,I 0,I 0,I 0]]):SV)=res)∧((ai a1)=true→(a1<L.fr→((.af [dK L, .agg [I 4,I 0,I 0,I 0]]):SV)=res)∧(¬a1<L.fr→(a2<0→((.af [dK L, .agg [I 2,I 0,I 0,I 0]]):SV)=res)∧(¬a2<0→(a2>9000000000000000000→((.af [dK L, .agg [I 2,I 0,I 0,I 0]]):SV)=res)∧(¬a2>9000000000000000000→(1≤L.nr∧L.nr≤100000)∧Ir L.op∧Ir L.t.a2∧L.nr≤100000∧Ir (((L.nr:Nat):Int)-1)∧((0:Int)≤(((L.nr:Nat):Int)-1)∧(((L.nr:Nat):Int)-1)<((L.nr:Nat):Int))∧((L.R ((((L.nr:Nat):Int)-1).toNat))<a1→((L.R ((((L.nr:Nat):Int)-1).toNat))>((aM L a1).fr)→((bZ L a1)<a2→(((aM L a1).op)<(IntKind.wrap .i64 (a2-(bZ L a1)))→((.af [dK (Ln.w (aM L a1) (IntKind.wrap .i64 (((aM L a1).op)-((aM L a1).op))) (IntKind.wrap .i64 ((bZ L a1)-(bZ L a1))) (L.R ((((L.nr:Nat):Int)-1).toNat)) (IntKind.wrap .i64 (((aM L a1).ba)+((aM L a1).op))) (IntKind.wrap .i64 (((aM L a1).it)+(bZ L a1)))), .agg [I 0,I (bZ L a1),I ((aM L a1).op),I (IntKind.wrap .i64 ((IntKind.wrap .i64 (a2-(bZ L a1)))-((aM L a1).op)))]]):SV)=res)∧(¬((aM L a1).op)<(IntKind.wrap .i64 (a2-(bZ L a1)))→((.af [dK (Ln.w (aM L a1) (IntKind.wrap .i64 (((aM L a1).op)-(IntKind.wrap .i64 (a2-(bZ L a1))))) (IntKind.wrap .i64 ((bZ L a1)-(bZ L a1))) (L.R ((((L.nr:Nat):Int)-1).toNat)) (IntKind.wrap .i64 (((aM L a1).ba)+(IntKind.wrap .i64 (a2-(bZ L a1))))) (IntKind.wrap .i64 (((aM L a1).it)+(bZ L a1)))), .agg [I 0,I (bZ L a1),I (IntKind.wrap .i64 (a2-(bZ L a1))),I (IntKind.wrap .i64 ((IntKind.wrap .i64 (a2-(bZ L a1)))-(IntKind.wrap .i64 (a2-(bZ L a1)))))]]):SV)=res))∧(¬(bZ L a1)<a2→(((aM L a1).op)<(IntKind.wrap .i64 (a2-a2))→((.af [dK (Ln.w (aM L a1) (IntKind.wrap .i64 (((aM L a1).op)-((aM L a1).op))) (IntKind.wrap .i64 ((bZ L a1)-a2)) (L.R ((((L.nr:Nat):Int)-1).toNat)) (IntKind.wrap .i64 (((aM L a1).ba)+((aM L a1).op))) (IntKind.wrap .i64 (((aM L a1).it)+a2))), .agg [I 0,I a2,I ((aM L a1).op),I (IntKind.wrap .i64 ((IntKind.wrap .i64 (a2-a2))-((aM L a1).op)))]]):SV)=res)∧(¬((aM L a1).op)<(IntKind.wrap .i64 (a2-a2))→((.af [dK (Ln.w (aM L a1) (IntKind.wrap .i64 (((aM L a1).op)-(IntKind.wrap .i64 (a2-a2)))) (IntKind.wrap .i64 ((bZ L a1)-a2)) (L.R ((((L.nr:Nat):Int)-1).toNat)) (IntKind.wrap .i64 (((aM L a1).ba)+(IntKind.wrap .i64 (a2-a2)))) (IntKind.wrap .i64 (((aM L a1).it)+a2))), .agg [I 0,I a2,I (IntKind.wrap .i64 (a2-a2)),I (IntKind.wrap .i64 ((IntKind.wrap .i64 (a2-a2))-(IntKind.wrap .i64 (a2-a2))))]]):SV)=res)))∧(¬(L.R ((((L.nr:Nat):Int)-1).toNat))>((aM L a1).fr)→((bZ L a1)<a2→(((aM L a1).op)<(IntKind.wrap .i64 (a2-(bZ L a1)))→((.af [dK (Ln.w (aM L a1) (IntKind.wrap .i64 (((aM L a1).op)-((aM L a1).op))) (IntKind.wrap .i64 ((bZ L a1)-(bZ L a1))) ((aM L a1).fr) (IntKind.wrap .i64 (((aM L a1).ba)+((aM L a1).op))) (IntKind.wrap .i64 (((aM L a1).it)+(bZ L a1)))), .agg [I 0,I (bZ L a1),I ((aM L a1).op),I (IntKind.wrap .i64 ((IntKind.wrap .i64 (a2-(bZ L a1)))-((aM L a1).op)))]]):SV)=res)∧(¬((aM L a1).op)<(IntKind.wrap .i64 (a2-(bZ L a1)))→((.af [dK (Ln.w (aM L a1) (IntKind.wrap .i64 (((aM L a1).op)-(IntKind.wrap .i64 (a2-(bZ L a1))))) (IntKind.wrap .i64 ((bZ L a1)-(bZ L a1))) ((aM L a1).fr) (IntKind.wrap .i64 (((aM L a1).ba)+(IntKind.wrap .i64 (a2-(bZ L a1))))) (IntKind.wrap .i64 (((aM L a1).it)+(bZ L a1)))), .agg [I 0,I (bZ L a1),I (IntKind.wrap .i64 (a2-(bZ L a1))),I (IntKind.wrap .i64 ((IntKind.wrap .i64 (a2-(bZ L a1)))-(IntKind.wrap .i64 (a2-(bZ L a1)))))]]):SV)=res))∧(¬(bZ L a1)<a2→(((aM L a1).op)<(IntKind.wrap .i64 (a2-a2))→((.af [dK (Ln.w (aM L a1) (IntKind.wrap .i64 (((aM L a1).op)-((aM L a1).op))) (IntKind.wrap .i64 ((bZ L a1)-a2)) ((aM L a1).fr) (IntKind.wrap .i64 (((aM L a1).ba)+((aM L a1).op))) (IntKind.wrap .i64 (((aM L a1).it)+a2))), .agg [I 0,I a2,I ((aM L a1).op),I (IntKind.wrap .i64 ((IntKind.wrap .i64 (a2-a2))-((aM L a1).op)))]]):SV)=res)∧(¬((aM L a1).op)<(IntKind.wrap .i64 (a2-a2))→((.af [dK (Ln.w (aM L a1) (IntKind.wrap .i64 (((aM L a1).op)-(IntKind.wrap .i64 (a2-a2)))) (IntKind.wrap .i64 ((bZ L a1)-a2)) ((aM L a1).fr) (IntKind.wrap .i64 (((aM L a1).ba)+(IntKind.wrap .i64 (a2-a2)))) (IntKind.wrap .i64 (((aM L a1).it)+a2))), .agg [I 0,I a2,I (IntKind.wrap .i64 (a2-a2)),I (IntKind.wrap .i64 ((IntKind.wrap .i64 (a2-a2))-(IntKind.wrap .i64 (a2-a2))))]]):SV)=res))))∧(¬(L.R ((((L.nr:Nat):Int)-1).toNat))<a1→(a1>((aM L a1).fr)→((bZ L a1)<a2→(((aM L a1).op)<(IntKind.wrap .i64 (a2-(bZ L a1)))→((.af [dK (Ln.w (aM L a1) (IntKind.wrap .i64 (((aM L a1).op)-((aM L a1).op))) (IntKind.wrap .i64 ((bZ L a1)-(bZ L a1))) a1 (IntKind.wrap .i64 (((aM L a1).ba)+((aM L a1).op))) (IntKind.wrap .i64 (((aM L a1).it)+(bZ L a1)))), .agg [I 0,I (bZ L a1),I ((aM L a1).op),I (IntKind.wrap .i64 ((IntKind.wrap .i64 (a2-(bZ L a1)))-((aM L a1).op)))]]):SV)=res)∧(¬((aM L a1).op)<(IntKind.wrap .i64 (a2-(bZ L a1)))→((.af [dK (Ln.w (aM L a1) (IntKind.wrap .i64 (((aM L a1).op)-(IntKind.wrap .i64 (a2-(bZ L a1))))) (IntKind.wrap .i64 ((bZ L a1)-(bZ L a1))) a1 (IntKind.wrap .i64 (((aM L a1).ba)+(IntKind.wrap .i64 (a2-(bZ L a1))))) (IntKind.wrap .i64 (((aM L a1).it)+(bZ L a1)))), .agg [I 0,I (bZ L a1),I (IntKind.wrap .i64 (a2-(bZ L a1))),I (IntKind.wrap .i64 ((IntKind.wrap .i64 (a2-(bZ L a1)))-(IntKind.wrap .i64 (a2-(bZ L a1)))))]]):SV)=res))∧(¬(bZ L a1)<a2→(((aM L a1).op)<(IntKind.wrap .i64 (a2-a2))→((.af [dK (Ln.w (aM L a1) (IntKind.wrap .i64 (((aM L a1).op)-((aM L a1).op))) (IntKind.wrap .i64 ((bZ L a1)-a2)) a1 (IntKind.wrap .i64 (((aM L a1).ba)+((aM L a1).op))) (IntKind.wrap .i64 (((aM L a1).it)+a2))), .agg [I 0,I a2,I ((aM L a1).op),I (IntKind.wrap .i64 ((IntKind.wrap .i64 (a2-a2))-((aM L a1).op)))]]):SV)=res)∧(¬((aM L a1).op)<(IntKind.wrap .i64 (a2-a2))→((.af [dK (Ln.w (aM L a1) (IntKind.wrap .i64 (((aM L a1).op)-(IntKind.wrap .i64 (a2-a2)))) (IntKind.wrap .i64 ((bZ L a1)-a2)) a1 (IntKind.wrap .i64 (((aM L a1).ba)+(IntKind.wrap .i64 (a2-a2)))) (IntKind.wrap .i64 (((aM L a1).it)+a2))), .agg [I 0,I a2,I (IntKind.wrap .i64 (a2-a2)),I (IntKind.wrap .i64 ((IntKind.wrap .i64 (a2-a2))-(IntKind.wrap .i64 (a2-a2))))]]):SV)=res)))∧(¬a1>((aM L a1).fr)→((bZ L a1)<a2→(((aM L a1).op)<(IntKind.wrap .i64 (a2-(bZ L a1)))→((.af [dK (Ln.w (aM L a1) (IntKind.wrap .i64 (((aM L a1).op)-((aM L a1).op))) (IntKind.wrap .i64 ((bZ L a1)-(bZ L a1))) ((aM L a1).fr) (IntKind.wrap .i64 (((aM L a1).ba)+((aM L a1).op))) (IntKind.wrap .i64 (((aM L a1).it)+(bZ L a1)))), .agg [I 0,I (bZ L a1),I ((aM L a1).op),I (IntKind.wrap .i64 ((IntKind.wrap .i64 (a2-(bZ L a1)))-((aM L a1).op)))]]):SV)=res)∧(¬((aM L a1).op)<(IntKind.wrap .i64 (a2-(bZ L a1)))→((.af [dK (Ln.w (aM L a1) (IntKind.wrap .i64 (((aM L a1).op)-(IntKind.wrap .i64 (a2-(bZ L a1))))) (IntKind.wrap .i64 ((bZ L a1)-(bZ L a1))) ((aM L a1).fr) (IntKind.wrap .i64 (((aM L a1).ba)+(IntKind.wrap .i64 (a2-(bZ L a1))))) (IntKind.wrap .i64 (((aM L a1).it)+(bZ L a1)))), .agg [I 0,I (bZ L a1),I (IntKind.wrap .i64 (a2-(bZ L a1))),I (IntKind.wrap .i64 ((IntKind.wrap .i64 (a2-(bZ L a1)))-(IntKind.wrap .i64 (a2-(bZ L a1)))))]]):SV)=res))∧(¬(bZ L a1)<a2→(((aM L a1).op)<(IntKind.wrap .i64 (a2-a2))→((.af [dK (Ln.w (aM L a1) (IntKind.wrap .i64 (((aM L a1).op)-((aM L a1).op))) (IntKind.wrap .i64 ((bZ L a1)-a2)) ((aM L a1).fr) (IntKind.wrap .i64 (((aM L a1).ba)+((aM L a1).op))) (IntKind.wrap .i64 (((aM L a1).it)+a2))), .agg [I 0,I a2,I ((aM L a1).op),I (IntKind.wrap .i64 ((IntKind.wrap .i64 (a2-a2))-((aM L a1).op)))]]):SV)=res)∧(¬((aM L a1).op)<(IntKind.wrap .i64 (a2-a2))→((.af [dK (Ln.w (aM L a1) (IntKind.wrap .i64 (((aM L a1).op)-(IntKind.wrap .i64 (a2-a2)))) (IntKind.wrap .i64 ((bZ L a1)-a2)) ((aM L a1).fr) (IntKind.wrap .i64 (((aM L a1).ba)+(IntKind.wrap .i64 (a2-a2)))) (IntKind.wrap .i64 (((aM L a1).it)+a2))), .agg [I 0,I a2,I (IntKind.wrap .i64 (a2-a2)),I (IntKind.wrap .i64 ((IntKind.wrap .i64 (a2-a2))-(IntKind.wrap .i64 (a2-a2))))]]):SV)=res))))))))):
  S 16 [dK L,I a1,I a2] (gP L) (res) []:=by
 refine ab.st fun X hX=> ?_
 obtain⟨L0,K0⟩:=H
 refine hX.go [c_ [] (dk a1)] ?_
 rcases aq (ai a1)with h0|h0
 ·obtain⟨L1,K1⟩:=K0 h0
  refine hX.go [f_ (nf h0)] ?_
  by_cases h1:a1<L.fr
  ·have HE:=L1 h1
   exact(hX.to HE.symm).e [t_ (dt h1)]
  ·obtain⟨L2,K2⟩:=K1 h1
   refine hX.go [f_ (df h1)] ?_
   by_cases h2:a2<0
   ·have HE:=L2 h2
    exact(hX.to HE.symm).e [n_ 3 (t_ (dt h2)),t_ rt]
   ·obtain⟨L3,K3⟩:=K2 h2
    refine hX.go [n_ 3 (f_ (df h2))] ?_
    by_cases h3:a2>9000000000000000000
    ·have HE:=L3 h3
     exact(hX.to HE.symm).e [t_ (dt h3)]
    ·obtain⟨h4,h5,h6,h7,h8,h9,L10,K10⟩:=K3 h3
     refine hX.go [f_ (df h3),c_ [0,1,2,3] (sg L a1 h4 h5 h6),c_ [0,1,2,3] (DA L a1 h7 h5 h6),q_ h8,q_ h9,q_ (show L.nr=L.nr from rfl),q_ h9,i_] ?_
     by_cases h10:(L.R ((((L.nr:Nat):Int)-1).toNat))<a1
     ·obtain⟨L11,K11⟩:=L10 h10
      refine hX.go [t_ (dt h10),q_ h8,q_ h9,q_ (show L.nr=L.nr from rfl),q_ h9,i_] ?_
      by_cases h11:(L.R ((((L.nr:Nat):Int)-1).toNat))>((aM L a1).fr)
      ·obtain⟨L12,K12⟩:=L11 h11
       refine hX.go [t_ (dt h11)] ?_
       by_cases h12:(bZ L a1)<a2
       ·obtain⟨L13,K13⟩:=L12 h12
        refine hX.go [t_ (dt h12),h_ [.w]] ?_
        by_cases h13:((aM L a1).op)<(IntKind.wrap .i64 (a2-(bZ L a1)))
        ·have HE:=L13 h13
         exact(hX.to HE.symm).e [t_ (dt h13),h_ [.w, .w, .w, .w, .w, .w]]
        ·have HE:=K13 h13
         exact(hX.to HE.symm).e [f_ (df h13),h_ [.w, .w, .w, .w, .w, .w]]
       ·obtain⟨L13,K13⟩:=K12 h12
        refine hX.go [f_ (df h12),h_ [.w]] ?_
        by_cases h13:((aM L a1).op)<(IntKind.wrap .i64 (a2-a2))
        ·have HE:=L13 h13
         exact(hX.to HE.symm).e [t_ (dt h13),h_ [.w, .w, .w, .w, .w, .w]]
        ·have HE:=K13 h13
         exact(hX.to HE.symm).e [f_ (df h13),h_ [.w, .w, .w, .w, .w, .w]]
      ·obtain⟨L12,K12⟩:=K11 h11
       refine hX.go [f_ (df h11)] ?_
       by_cases h12:(bZ L a1)<a2
       ·obtain⟨L13,K13⟩:=L12 h12
        refine hX.go [t_ (dt h12),h_ [.w]] ?_
        by_cases h13:((aM L a1).op)<(IntKind.wrap .i64 (a2-(bZ L a1)))
        ·have HE:=L13 h13
         exact(hX.to HE.symm).e [t_ (dt h13),h_ [.w, .w, .w, .w, .w, .w]]
        ·have HE:=K13 h13
         exact(hX.to HE.symm).e [f_ (df h13),h_ [.w, .w, .w, .w, .w, .w]]
       ·obtain⟨L13,K13⟩:=K12 h12
        refine hX.go [f_ (df h12),h_ [.w]] ?_
        by_cases h13:((aM L a1).op)<(IntKind.wrap .i64 (a2-a2))
        ·have HE:=L13 h13
         exact(hX.to HE.symm).e [t_ (dt h13),h_ [.w, .w, .w, .w, .w, .w]]
        ·have HE:=K13 h13
         exact(hX.to HE.symm).e [f_ (df h13),h_ [.w, .w, .w, .w, .w, .w]]
     ·obtain⟨L11,K11⟩:=K10 h10
      refine hX.go [f_ (df h10)] ?_
      by_cases h11:a1>((aM L a1).fr)
      ·obtain⟨L12,K12⟩:=L11 h11
       refine hX.go [t_ (dt h11)] ?_
       by_cases h12:(bZ L a1)<a2
       ·obtain⟨L13,K13⟩:=L12 h12
        refine hX.go [t_ (dt h12),h_ [.w]] ?_
        by_cases h13:((aM L a1).op)<(IntKind.wrap .i64 (a2-(bZ L a1)))
        ·have HE:=L13 h13
         exact(hX.to HE.symm).e [t_ (dt h13),h_ [.w, .w, .w, .w, .w, .w]]
        ·have HE:=K13 h13
         exact(hX.to HE.symm).e [f_ (df h13),h_ [.w, .w, .w, .w, .w, .w]]
       ·obtain⟨L13,K13⟩:=K12 h12
        refine hX.go [f_ (df h12),h_ [.w]] ?_
        by_cases h13:((aM L a1).op)<(IntKind.wrap .i64 (a2-a2))
        ·have HE:=L13 h13
         exact(hX.to HE.symm).e [t_ (dt h13),h_ [.w, .w, .w, .w, .w, .w]]
        ·have HE:=K13 h13
         exact(hX.to HE.symm).e [f_ (df h13),h_ [.w, .w, .w, .w, .w, .w]]
      ·obtain⟨L12,K12⟩:=K11 h11
       refine hX.go [f_ (df h11)] ?_
       by_cases h12:(bZ L a1)<a2
       ·obtain⟨L13,K13⟩:=L12 h12
        refine hX.go [t_ (dt h12),h_ [.w]] ?_
        by_cases h13:((aM L a1).op)<(IntKind.wrap .i64 (a2-(bZ L a1)))
        ·have HE:=L13 h13
         exact(hX.to HE.symm).e [t_ (dt h13),h_ [.w, .w, .w, .w, .w, .w]]
        ·have HE:=K13 h13
         exact(hX.to HE.symm).e [f_ (df h13),h_ [.w, .w, .w, .w, .w, .w]]
       ·obtain⟨L13,K13⟩:=K12 h12
        refine hX.go [f_ (df h12),h_ [.w]] ?_
        by_cases h13:((aM L a1).op)<(IntKind.wrap .i64 (a2-a2))
        ·have HE:=L13 h13
         exact(hX.to HE.symm).e [t_ (dt h13),h_ [.w, .w, .w, .w, .w, .w]]
        ·have HE:=K13 h13
         exact(hX.to HE.symm).e [f_ (df h13),h_ [.w, .w, .w, .w, .w, .w]]
 ·have HE:=L0 h0
  exact(hX.to HE.symm).e [t_ (nt h0)]
theorem Iy (L:Ln) (n m:Int) (hn:1≤L.nr∧L.nr≤100000) (h1:Ir L.op) (h2:Ir L.t.a2):S 16 [dK L,I n,I m] (gP L) (F1 L n m) []:=by
 refine Dt ⟨fun c=>rE (if_pos c) (by decide),fun c=>⟨fun c1=>rE (k:=4) ?_ (by decide),fun c1=>⟨fun c2=>rE (k:=2) ?_ (by decide),fun c2=>⟨fun c3=>rE (k:=2) ?_ (by decide),fun c3=> ?_⟩⟩⟩⟩
 ·unfold gz;rw[if_neg (by rw[c];decide),if_pos c1]
 ·unfold gz;rw[if_neg (by rw[c];decide),if_neg c1,if_pos (.inl c2)]
 ·unfold gz;rw[if_neg (by rw[c];decide),if_neg c1,if_pos (.inr c3)]
 ·have he:gz L n m=0:=by unfold gz;rw[if_neg (by rw[c];decide),if_neg c1,if_neg (by omega)]
  have ow:bZ L n=(fK L n).1:=if_pos c
  have se:=GN (L:=L) c
  have s2:(fK L n).2=if aO n (L.R (L.nr-1))>(aM L n).fr then aO n (L.R (L.nr-1))else(aM L n).fr:=by rw[se];split<;>rfl
  rw[show(((L.nr:Nat):Int)-1).toNat=L.nr-1 by omega,ow]
  have fin: ∀ f,f=(fK L n).2→((fK L n).1<m→((aM L n).op<rS (m-(fK L n).1)→_)∧(¬(aM L n).op<rS (m-(fK L n).1)→_))∧(¬(fK L n).1<m→((aM L n).op<rS (m-m)→_)∧(¬(aM L n).op<rS (m-m)→_)):=fun f hf=>
   ⟨fun d=>⟨fun e=>tj he (if_pos d).symm (if_pos e).symm hf,fun e=>tj he (if_pos d).symm (if_neg e).symm hf⟩,fun d=>⟨fun e=>tj he (if_neg d).symm (if_pos e).symm hf,fun e=>tj he (if_neg d).symm (if_neg e).symm hf⟩⟩
  refine⟨hn,h1,h2,hn.2,aT (by omega),by omega,fun q=>⟨fun r=>fin _ ?_,fun r=>fin _ ?_⟩,fun q=>⟨fun r=>fin _ ?_,fun r=>fin _ ?_⟩⟩
  ·rw[s2,show aO n (L.R (L.nr-1))=L.R (L.nr-1)from if_pos q,if_pos r]
  ·rw[s2,show aO n (L.R (L.nr-1))=L.R (L.nr-1)from if_pos q,if_neg r]
  ·rw[s2,show aO n (L.R (L.nr-1))=n from if_neg q,if_pos r]
  ·rw[s2,show aO n (L.R (L.nr-1))=n from if_neg q,if_neg r]
theorem De {L:Ln} (H:(L.nd=L.nd∧ ∀ i,i<L.nd→(fun i=>L.D i) i=(fun i=>L.D i) i)∧(L.nr=L.nr∧ ∀ i,i<L.nr→(fun i=>L.R i) i=(fun i=>L.R i) i)∧(L.nk=L.nk∧ ∀ i,i<L.nk→(fun i=>L.V i) i=(fun i=>L.V i) i)∧(L.np=L.np∧ ∀ i,i<L.np→(fun i=>L.X i) i=(fun i=>L.X i) i∧(fun i=>L.Y i) i=(fun i=>L.Y i) i)∧(L.eo)=(L.eo)∧L.en=L.en∧L.fq=L.fq∧L.nd≤10000∧L.nr≤10000∧L.nk≤10000∧L.np≤10000∧((L.t.a1==L.t.a1)&&((L.t.a2==L.t.a2)&&((L.t.a3==L.t.a3)&&((L.t.a4==L.t.a4)&&((L.t.a5==L.t.a5)&&((L.t.a6==L.t.a6)&&((L.t.a7==L.t.a7)&&(((L.t.a8)==(L.t.a8))&&(((L.t.a9)==(L.t.a9))&&(((L.t.ak)==(L.t.ak))&&((L.t.ah==L.t.ah)&&true)))))))))))=true∧L.op=L.op∧L.du=L.du∧L.fr=L.fr∧L.ba=L.ba∧(L.it==L.it)=true):
  S 14 [dK L,Mf L] (gP L++gP L) (B true) []:=by
 refine ab.st fun X hX=> ?_
 obtain⟨h0,h1,h2,h3,h4,h5,h6,h7,h8,h9,h10,c11,K11⟩:=H
 refine hX.go [c_ [0,1,2,3,4,5,6,7] (show S 33 [.agg [.sl 0 L.nd, .sl 1 L.nr, .sl 2 L.np,B (L.eo),I L.en,I L.fq, .sl 3 L.nk], .agg [.sl 4 L.nd, .sl 5 L.nr, .sl 6 L.np,B (L.eo),I L.en,I L.fq, .sl 7 L.nk]] (gP L++gP L) (B true) []from J1 h0 h1 h2 h3 h4 h5 h6 h7 h8 h9 h10),n_ 6 (t_ rt)] ?_
 rcases aq ((L.t.a1==L.t.a1)&&((L.t.a2==L.t.a2)&&((L.t.a3==L.t.a3)&&((L.t.a4==L.t.a4)&&((L.t.a5==L.t.a5)&&((L.t.a6==L.t.a6)&&((L.t.a7==L.t.a7)&&(((L.t.a8)==(L.t.a8))&&(((L.t.a9)==(L.t.a9))&&(((L.t.ak)==(L.t.ak))&&((L.t.ah==L.t.ah)&&true)))))))))))with h11|h11
 ·obtain⟨c12,K12⟩:=K11
  refine hX.go [n_ 6 (t_ h11)] ?_
  by_cases h12:L.op=L.op
  ·obtain⟨c13,K13⟩:=K12
   refine hX.go [n_ 6 (t_ (beq_iff_eq.2 h12))] ?_
   by_cases h13:L.du=L.du
   ·obtain⟨c14,K14⟩:=K13
    refine hX.go [n_ 6 (t_ (beq_iff_eq.2 h13))] ?_
    by_cases h14:L.fr=L.fr
    ·obtain⟨c15,K15⟩:=K14
     refine hX.go [n_ 6 (t_ (beq_iff_eq.2 h14))] ?_
     by_cases h15:L.ba=L.ba
     ·have HE:=K15
      exact(hX.to (congrArg B HE).symm).e [n_ 6 (t_ (beq_iff_eq.2 h15))]
     ·exact absurd c15 h15
    ·exact absurd c14 h14
   ·exact absurd c13 h13
  ·exact absurd c12 h12
 ·exact Go.Sx.Me c11 h11
theorem zu (x y:Ln) (h:Fj x y):S 14 [dK x,Mf y] (gP x++gP y) (B true) []:=by
 obtain⟨rfl,h1,h2,h3,h4⟩:=h
 refine De ⟨⟨rfl,fun _ _=>rfl⟩,⟨rfl,fun _ _=>rfl⟩,⟨rfl,fun _ _=>rfl⟩,⟨rfl,fun _ _=>⟨rfl,rfl⟩⟩,rfl,rfl,rfl,h1,h2,h3,h4, ?_,rfl,rfl,rfl,rfl,by simp⟩
 simp
theorem Dd (H:((0:Int)==0)=true):
  S 14 [.agg [I 0,I 0,I 0,I 0,I 0,I 0,I 0,B false,B false,B false,I 0, .val (.slice none 0 0), .val (.slice none 0 0), .val (.slice none 0 0),B false,I 0,I 0, .val (.slice none 0 0),I 0,I 0,I 0,I 0,I 0], .agg [I 0,I 0,I 0,I 0,I 0,I 0,I 0,B false,B false,B false,I 0, .val (.slice none 0 0), .val (.slice none 0 0), .val (.slice none 0 0),B false,I 0,I 0, .val (.slice none 0 0),I 0,I 0,I 0,I 0,I 0]] [] (B true) []:=by
 refine ab.st fun X hX=> ?_
 have HE:=H
 exact(hX.to (congrArg B HE).symm).e [i_,i_,f_ rf,f_ rf,i_,f_ rf,f_ rf,i_,f_ rf,f_ rf,i_,f_ rf,f_ rf,n_ 66 (t_ rt)]theorem Iw:S 14 [.agg [I 0,I 0,I 0,I 0,I 0,I 0,I 0,B false,B false,B false,I 0, .val (.slice none 0 0), .val (.slice none 0 0), .val (.slice none 0 0),B false,I 0,I 0, .val (.slice none 0 0),I 0,I 0,I 0,I 0,I 0], .agg [I 0,I 0,I 0,I 0,I 0,I 0,I 0,B false,B false,B false,I 0, .val (.slice none 0 0), .val (.slice none 0 0), .val (.slice none 0 0),B false,I 0,I 0, .val (.slice none 0 0),I 0,I 0,I 0,I 0,I 0]] [] (B true) []:=Dd rfl
end Go.Proofs.YtelidogcomffkaaGreatDoor
namespace Go.Proofs.YtelidogcomffkaaGreatDoor
open Go Go.Sx
variable [dc]
abbrev KC (C:Cl) (na:Nat) (pb:Nat→Bool) (dy mo:Nat→Int):List (Option Vw):=[some (.row false 109 C.nr 8 (fun i=>[I ((C.R i).kind),I ((C.R i).aY),I ((C.R i).day),I ((C.R i).k),I ((C.R i).off),I ((C.R i).sh),I ((C.R i).fr),I ((C.R i).to)])),some (.row false 3 C.nd 1 (fun i=>[I (C.D i)])),some (.row false 48 na 3 (fun i=>[B (pb i),I (dy i),I (mo i)]))]
abbrev sD (x:Int) (dy:Nat→Int) (i:Int):Int:=IntKind.wrap .i64 (x+dy i.toNat)
noncomputable abbrev sL (t:cj) (C:Cl) (op du fr ba it:Int):Ln:=Ln.w (oL t C) op du fr ba it
end Go.Proofs.YtelidogcomffkaaGreatDoor
namespace Go.Proofs.YtelidogcomffkaaGreatDoor
open Go Go.Sx
variable [dc]
def d22 (i:Nat):Int:=[738945,738946,739038,739130,739221,739311].getD i 0
def Bj (i:Nat):Int×Int:=[(1,360),(23,90),(23,90),(91,360),(1,4)].getD i (0,0)
def rT (i j:Nat):Int:=([[100000,14,20000,20014,80000],[80000,1022,20000,21022,60000],[60000,767,20000,20767,40000],[40000,506,20000,20506,20000],[20000,250,20000,20250,0]].getD i []).getD j 0
def rn:cj:=⟨100000,500,1,3,738945,739311,3,true,false,false,0⟩
def mP:Ln:=⟨rn,6,d22,6,d22,5,fun i=>(Bj i).1,fun i=>(Bj i).2,false,739311,4,0,fun _=>0,100000,0,738945,0,0⟩
theorem yO (k:Nat) (o v:Int) (ho:Ir o) (h:rH o 500 (Bj k).1 (Bj k).2=(v,0)):S 122 [I o,I 500, .agg [I (Bj k).1,I (Bj k).2]] [] (.af [I v,I 0]) []:=by
 have:=Mr (o:=o) (r:=500) (Bj k).1 (Bj k).2 ho (aT (by decide))
 rw[h]at this;exact this
theorem HR {res:SV} {new:List (Option Vw)} (H:LV Tryz.prog 140 (.agg []) "demurrage/table.number" 286∧LV Tryz.prog 142 (.agg []) "demurrage/table.number" 287∧LW Tryz.prog (.dZ 142 (.agg [])) 137 140 true (.af [.agg [],B false])∧LW Tryz.prog (.dZ 142 (.agg [])) 137 142 true (.af [.agg [],B true])∧ ∃ q1:Nat→Int,(∀ k,k<2→q1 k=if k<1 then 100000 else 80000)∧ ∃ q2:Nat→Int,(∀ k,k<2→q2 k=if k<1 then 14 else 1022)∧ ∃ q3:Nat→Int,(∀ k,k<2→q3 k=if k<1 then 20000 else 20000)∧ ∃ q4:Nat→Int,(∀ k,k<2→q4 k=if k<1 then 20014 else 21022)∧ ∃ q5:Nat→Int,(∀ k,k<2→q5 k=if k<1 then 80000 else 60000)∧ ∃ q6:Nat→Int,(∀ k,k<3→q6 k=if k<2 then(q1 k)else 60000)∧ ∃ q7:Nat→Int,(∀ k,k<3→q7 k=if k<2 then(q2 k)else 767)∧ ∃ q8:Nat→Int,(∀ k,k<3→q8 k=if k<2 then(q3 k)else 20000)∧ ∃ q9:Nat→Int,(∀ k,k<3→q9 k=if k<2 then(q4 k)else 20767)∧ ∃ q10:Nat→Int,(∀ k,k<3→q10 k=if k<2 then(q5 k)else 40000)∧ ∃ q11:Nat→Int,(∀ k,k<4→q11 k=if k<3 then(q6 k)else 40000)∧ ∃ q12:Nat→Int,(∀ k,k<4→q12 k=if k<3 then(q7 k)else 506)∧ ∃ q13:Nat→Int,(∀ k,k<4→q13 k=if k<3 then(q8 k)else 20000)∧ ∃ q14:Nat→Int,(∀ k,k<4→q14 k=if k<3 then(q9 k)else 20506)∧ ∃ q15:Nat→Int,(∀ k,k<4→q15 k=if k<3 then(q10 k)else 20000)∧ ∃ q16:Nat→Int,(∀ k,k<5→q16 k=if k<4 then(q11 k)else 20000)∧ ∃ q17:Nat→Int,(∀ k,k<5→q17 k=if k<4 then(q12 k)else 250)∧ ∃ q18:Nat→Int,(∀ k,k<5→q18 k=if k<4 then(q13 k)else 20000)∧ ∃ q19:Nat→Int,(∀ k,k<5→q19 k=if k<4 then(q14 k)else 20250)∧ ∃ q20:Nat→Int,(∀ k,k<5→q20 k=if k<4 then(q15 k)else 0)∧((q19 4)>4611686018427387904→(((.af [.val (.slice none 0 0),I 6]):SV)=res)∧aG [] new)∧(¬(q19 4)>4611686018427387904→(((.af [.sl 1 5,I 0]):SV)=res)∧aG [some (.row true 65 5 5 (fun i=>[I (q16 i),I (q17 i),I (q18 i),I (q19 i),I (q20 i)]))] new)):
  S 44 [I 1,I 100000,I 500, .sl 0 5] [some (.row false 121 5 2 (fun i=>[I ((Bj i).1),I ((Bj i).2)]))] (res) new:=by
 refine ab.st fun X hX=> ?_
 obtain⟨h0,h1,h2,h3,q1,h4,q2,h5,q3,h6,q4,h7,q5,h8,q6,h9,q7,h10,q8,h11,q9,h12,q10,h13,q11,h14,q12,h15,q13,h16,q14,h17,q15,h18,q16,h19,q17,h20,q18,h21,q19,h22,q20,h23,L44,K44⟩:=H
 refine hX.go [q_ (show ∀ k,k<3→(a_ [[.dZ 140 (.agg [])],[.dZ 142 (.agg [])],[.dZ 143 (.agg [])]]) k=[[.dZ 140 (.agg [])],[.dZ 142 (.agg [])],[.dZ 143 (.agg [])]].getD k []from by intro k hk;match k,hk with|0,_=>rfl|1,_=>rfl|2,_=>rfl|k+3,hk=>omega),i_,h_ [.row (a_ [[.dZ 140 (.agg [])],[.dZ 142 (.agg [])],[.dZ 143 (.agg [])]])],t_ rt,q_ (show(0:Int)≤0∧0<((3:Nat):Int)from by decide),q_ (re 3),q_ (show(0:Int)≤0∧0<((3:Nat):Int)from by decide),q_ h0,h_ [.ext (.fn (.func 286) [] [])],i_,f_ rf,q_ (show Ir 1 from by decide),t_ rt,q_ (show(0:Int)≤1∧1<((3:Nat):Int)from by decide),q_ (re 3),q_ (show(0:Int)≤1∧1<((3:Nat):Int)from by decide),q_ h1,h_ [.ext (.fn (.func 287) [] [])],i_,t_ rt,q_ h2,h_ [.ext (.af [.agg [],B false])],f_ rf,q_ h3,h_ [.ext (.af [.agg [],B true])],t_ rt,i_,i_,n_ 8 (f_ rf),t_ rt,q_ (show(0:Int)≤0∧0<((5:Nat):Int)from by decide),q_ (re 5),q_ (show(0:Int)≤0∧0<((5:Nat):Int)from by decide),q_ (show(0:Int)≤100000 from by decide),q_ (show(0:Int)<5 from by decide),q_ (show Ir 20000 from by decide),q_ (show Ir 4 from by decide),i_,f_ rf,i_,c_ [] (yO 0 100000 14 (aT (by decide)) (by kernel_rfl)),q_ (show Ir 20014 from by decide),q_ (show Ir 80000 from by decide),f_ rf,q_ (show ∀ k,k<1→(fun i=>[I 100000,I 14,I 20000,I 20014,I 80000]) k=[[I 100000,I 14,I 20000,I 20014,I 80000]].getD k []from by intro k hk;match k,hk with|0,_=>rfl|k+1,hk=>omega),q_ (re 1),q_ (show 1*40≤140737488355328 from by first|decide|omega|(constructor<;>omega)),q_ (show ∀ k,k<1→(fun i=>[I 100000,I 14,I 20000,I 20014,I 80000]) k=(fun i=>[I 100000,I 14,I 20000,I 20014,I 80000]) k from fun _ _=>rfl),q_ (show Ir 1 from by decide),h_ [.row (fun i=>[I 100000,I 14,I 20000,I 20014,I 80000]), .row (fun i=>[I 100000,I 14,I 20000,I 20014,I 80000])],t_ rt,q_ (show(0:Int)≤1∧1<((5:Nat):Int)from by decide),q_ (re 5),q_ (show(0:Int)≤1∧1<((5:Nat):Int)from by decide),q_ (show(0:Int)≤100000 from by decide),q_ (show(0:Int)<5 from by decide),q_ (show Ir 20000 from by decide),q_ (show Ir 4 from by decide),i_,f_ rf,i_,c_ [] (yO 1 80000 1022 (aT (by decide)) (by kernel_rfl)),q_ (show Ir 21022 from by decide),q_ (show Ir 60000 from by decide),f_ rf,q_ (show ∀ k,k<1→(fun i=>[I 80000,I 1022,I 20000,I 21022,I 60000]) k=[[I 80000,I 1022,I 20000,I 21022,I 60000]].getD k []from by intro k hk;match k,hk with|0,_=>rfl|k+1,hk=>omega),q_ (re 1),q_ (re 1),q_ (show(1+1)*40≤140737488355328 from by first|decide|omega|(constructor<;>omega)),q_ (show ∀ k,k<1+1→(fun i=>[I (q1 i),I (q2 i),I (q3 i),I (q4 i),I (q5 i)]) k=if k<1 then(fun i=>[I 100000,I 14,I 20000,I 20014,I 80000]) k else(fun i=>[I 80000,I 1022,I 20000,I 21022,I 60000]) (k-1)from fun k hk=>by
   have e0:=h4 k hk
   have e1:=h5 k hk
   have e2:=h6 k hk
   have e3:=h7 k hk
   have e4:=h8 k hk
   by_cases c:k<1
   ·simp_all
   ·rw[if_neg c]at e0 e1 e2 e3 e4⊢;simp only[e0,e1,e2,e3,e4]),q_ (show Ir 2 from by decide),h_ [.row (fun i=>[I 80000,I 1022,I 20000,I 21022,I 60000]), .row (fun i=>[I (q1 i),I (q2 i),I (q3 i),I (q4 i),I (q5 i)])],t_ rt,q_ (show(0:Int)≤2∧2<((5:Nat):Int)from by decide),q_ (re 5),q_ (show(0:Int)≤2∧2<((5:Nat):Int)from by decide),q_ (show(0:Int)≤100000 from by decide),q_ (show(0:Int)<5 from by decide),q_ (show Ir 20000 from by decide),q_ (show Ir 4 from by decide),i_,f_ rf,i_,c_ [] (yO 2 60000 767 (aT (by decide)) (by kernel_rfl)),q_ (show Ir 20767 from by decide),q_ (show Ir 40000 from by decide),f_ rf,q_ (show ∀ k,k<1→(fun i=>[I 60000,I 767,I 20000,I 20767,I 40000]) k=[[I 60000,I 767,I 20000,I 20767,I 40000]].getD k []from by intro k hk;match k,hk with|0,_=>rfl|k+1,hk=>omega),q_ (re 1),q_ (re 2),q_ (show(2+1)*40≤140737488355328 from by first|decide|omega|(constructor<;>omega)),q_ (show ∀ k,k<2+1→(fun i=>[I (q6 i),I (q7 i),I (q8 i),I (q9 i),I (q10 i)]) k=if k<2 then(fun i=>[I (q1 i),I (q2 i),I (q3 i),I (q4 i),I (q5 i)]) k else(fun i=>[I 60000,I 767,I 20000,I 20767,I 40000]) (k-2)from fun k hk=>by
   have e0:=h9 k hk
   have e1:=h10 k hk
   have e2:=h11 k hk
   have e3:=h12 k hk
   have e4:=h13 k hk
   by_cases c:k<2
   ·simp_all
   ·rw[if_neg c]at e0 e1 e2 e3 e4⊢;simp only[e0,e1,e2,e3,e4]),q_ (show Ir 3 from by decide),h_ [.row (fun i=>[I 60000,I 767,I 20000,I 20767,I 40000]), .row (fun i=>[I (q6 i),I (q7 i),I (q8 i),I (q9 i),I (q10 i)])],t_ rt,q_ (show(0:Int)≤3∧3<((5:Nat):Int)from by decide),q_ (re 5),q_ (show(0:Int)≤3∧3<((5:Nat):Int)from by decide),q_ (show(0:Int)≤100000 from by decide),q_ (show(0:Int)<5 from by decide),q_ (show Ir 20000 from by decide),q_ (show Ir 4 from by decide),i_,f_ rf,i_,c_ [] (yO 3 40000 506 (aT (by decide)) (by kernel_rfl)),q_ (show Ir 20506 from by decide),q_ (show Ir 20000 from by decide),f_ rf,q_ (show ∀ k,k<1→(fun i=>[I 40000,I 506,I 20000,I 20506,I 20000]) k=[[I 40000,I 506,I 20000,I 20506,I 20000]].getD k []from by intro k hk;match k,hk with|0,_=>rfl|k+1,hk=>omega),q_ (re 1),q_ (re 3),q_ (show(3+1)*40≤140737488355328 from by first|decide|omega|(constructor<;>omega)),q_ (show ∀ k,k<3+1→(fun i=>[I (q11 i),I (q12 i),I (q13 i),I (q14 i),I (q15 i)]) k=if k<3 then(fun i=>[I (q6 i),I (q7 i),I (q8 i),I (q9 i),I (q10 i)]) k else(fun i=>[I 40000,I 506,I 20000,I 20506,I 20000]) (k-3)from fun k hk=>by
   have e0:=h14 k hk
   have e1:=h15 k hk
   have e2:=h16 k hk
   have e3:=h17 k hk
   have e4:=h18 k hk
   by_cases c:k<3
   ·simp_all
   ·rw[if_neg c]at e0 e1 e2 e3 e4⊢;simp only[e0,e1,e2,e3,e4]),q_ (show Ir 4 from by decide),h_ [.row (fun i=>[I 40000,I 506,I 20000,I 20506,I 20000]), .row (fun i=>[I (q11 i),I (q12 i),I (q13 i),I (q14 i),I (q15 i)])],t_ rt,q_ (show(0:Int)≤4∧4<((5:Nat):Int)from by decide),q_ (re 5),q_ (show(0:Int)≤4∧4<((5:Nat):Int)from by decide),q_ (show(0:Int)≤100000 from by decide),q_ (show(0:Int)<5 from by decide),q_ (show Ir 20000 from by decide),q_ (show Ir 4 from by decide),i_,t_ rt,i_,c_ [] (yO 4 20000 250 (aT (by decide)) (by kernel_rfl)),q_ (show Ir 20250 from by decide),q_ (show Ir 0 from by decide),f_ rf,q_ (show ∀ k,k<1→(fun i=>[I 20000,I 250,I 20000,I 20250,I 0]) k=[[I 20000,I 250,I 20000,I 20250,I 0]].getD k []from by intro k hk;match k,hk with|0,_=>rfl|k+1,hk=>omega),q_ (re 1),q_ (re 4),q_ (show(4+1)*40≤140737488355328 from by first|decide|omega|(constructor<;>omega)),q_ (show ∀ k,k<4+1→(fun i=>[I (q16 i),I (q17 i),I (q18 i),I (q19 i),I (q20 i)]) k=if k<4 then(fun i=>[I (q11 i),I (q12 i),I (q13 i),I (q14 i),I (q15 i)]) k else(fun i=>[I 20000,I 250,I 20000,I 20250,I 0]) (k-4)from fun k hk=>by
   have e0:=h19 k hk
   have e1:=h20 k hk
   have e2:=h21 k hk
   have e3:=h22 k hk
   have e4:=h23 k hk
   by_cases c:k<4
   ·simp_all
   ·rw[if_neg c]at e0 e1 e2 e3 e4⊢;simp only[e0,e1,e2,e3,e4]),q_ (show Ir 5 from by decide),h_ [.row (fun i=>[I 20000,I 250,I 20000,I 20250,I 0]), .row (fun i=>[I (q16 i),I (q17 i),I (q18 i),I (q19 i),I (q20 i)])],f_ rf,q_ (show Ir 4 from by decide),q_ (show(0:Int)≤4∧4<((5:Nat):Int)from by decide),q_ (re 5),q_ (show(0:Int)≤4∧4<((5:Nat):Int)from by decide),q_ (show(0:Int)≤4∧4<((5:Nat):Int)from by decide)] ?_
 by_cases h24:(q19 4)>4611686018427387904
 ·simp_all
 ·have HE:=K44 h24
  obtain⟨HE,HN⟩:=HE
  exact((hX.to HE.symm).same HN).e [f_ (df h24)] [41]
theorem KX:S 44 [I 1,I 100000,I 500, .sl 0 5] [some (.row false 121 5 2 (fun i=>[I (Bj i).1,I (Bj i).2]))] (.af [.sl 1 5,I 0]) [some (.row true 65 5 5 (fun i=>[I (rT i 0),I (rT i 1),I (rT i 2),I (rT i 3),I (rT i 4)]))]:=
 HR ⟨fun _ _=>by kernel_rfl,fun _ _=>by kernel_rfl,fun _ _=>by kernel_rfl,fun _ _=>by kernel_rfl,fun k=>rT k 0,by decide,fun k=>rT k 1,by decide,fun k=>rT k 2,by decide,fun k=>rT k 3,by decide,fun k=>rT k 4,by decide,
  fun k=>rT k 0,by decide,fun k=>rT k 1,by decide,fun k=>rT k 2,by decide,fun k=>rT k 3,by decide,fun k=>rT k 4,by decide,fun k=>rT k 0,by decide,fun k=>rT k 1,by decide,fun k=>rT k 2,by decide,fun k=>rT k 3,by decide,fun k=>rT k 4,by decide,
  fun k=>rT k 0,by decide,fun k=>rT k 1,by decide,fun k=>rT k 2,by decide,fun k=>rT k 3,by decide,fun k=>rT k 4,by decide,fun c=>absurd c (by decide),fun _=>⟨rfl,aG.refl _⟩⟩
theorem JQ:S 31 [.agg [I 100000,I 500,I 1,I 3,I 738945,I 739311,I 3,B true,B false,B false,I 0], .agg [B false,B false,B false,B false,B false,B false,B false, .val (.slice none 0 0), .val (.slice none 0 0)]] [] (.af [.agg [.sl 0 6, .sl 1 6, .sl 2 5,B false,I 739311,I 4, .sl 3 0],I 0]) [ro 6 d22,ro 6 d22,some (.row true 121 5 2 (fun i=>[I (Bj i).1,I (Bj i).2])),ro 0 (fun i=>0)]:=by
 have h:=Le rn (fun _=>of_decide_eq_true (by kernel_rfl))
 have e1:bF rn mr=0:=by kernel_rfl
 have e2:eA rn mr=6:=by kernel_rfl
 have e3:DL rn mr=false:=by kernel_rfl
 have e4:DK rn mr=739311:=by kernel_rfl
 have e5:DJ rn mr=4:=by kernel_rfl
 have e6:uM rn mr=0:=by kernel_rfl
 unfold zC zt at h
 rw[e1,e2,e3,e4,e5,e6]at h
 refine ab.same h (aG.refl _) ⟨⟨rfl,rfl,rfl,rfl,fun i hi=> ?_⟩,⟨rfl,rfl,rfl,rfl,fun i hi=> ?_⟩,⟨rfl,rfl,rfl,rfl,fun i hi=> ?_⟩,⟨rfl,rfl,rfl,rfl,fun i hi=>absurd hi (Nat.not_lt_zero _)⟩,trivial⟩
 ·match i,hi with|0,_=>(show _=_;kernel_rfl)|1,_=>(show _=_;kernel_rfl)|2,_=>(show _=_;kernel_rfl)|3,_=>(show _=_;kernel_rfl)|4,_=>(show _=_;kernel_rfl)|5,_=>(show _=_;kernel_rfl)|i+6,hi=>omega
 ·match i,hi with|0,_=>(show _=_;kernel_rfl)|1,_=>(show _=_;kernel_rfl)|2,_=>(show _=_;kernel_rfl)|3,_=>(show _=_;kernel_rfl)|4,_=>(show _=_;kernel_rfl)|5,_=>(show _=_;kernel_rfl)|i+6,hi=>omega
 ·match i,hi with|0,_=>(show _=_;kernel_rfl)|1,_=>(show _=_;kernel_rfl)|2,_=>(show _=_;kernel_rfl)|3,_=>(show _=_;kernel_rfl)|4,_=>(show _=_;kernel_rfl)|i+5,hi=>omega
theorem Lp:S 19 [dK mP,I 739035] (gP mP) (.af [I 1250,I 0]) []:=by
 have h:=Bz mP 739035 (by decide) (aT (by decide)) (aT (by decide))
 rw[show bZ mP 739035=1250 by kernel_rfl,show fV 739035=0 by kernel_rfl]at h;exact h
theorem Lo:S 21 [dK mP,I 739035] (gP mP) (.af [I 101250,I 0]) []:=by
 have h:=zO mP 739035 (by decide) (aT (by decide)) (aT (by decide))
 rw[show zw mP 739035=101250 by kernel_rfl,show fV 739035=0 by kernel_rfl]at h;exact h
theorem LD:S 17 [dK mP,I 0] (gP mP) (.af [dK mP,I 3]) []:=by
 have h:=Mg mP 0 (by decide) (aT (by decide)) (aT (by decide))
 rw[show aM mP 0=mP by kernel_rfl,show fV 0=3 by kernel_rfl]at h;exact h
theorem IH (n m e a b c op du fr ba it:Int) (h0:KI mP n m) (h1:Jv mP n m=Ln.w mP op du fr ba it) (h2:gz mP n m=e) (h3:vM mP n m=a) (h4:Jx mP n m=b) (h5:Jw mP n m=c):
  S 15 [dK mP,I n,I m] (gP mP) (.af [dK (Ln.w mP op du fr ba it), .agg [I e,I a,I b,I c]]) []:=by
 have h:=Lx mP n m (by decide) (aT (by decide)) (aT (by decide)) h0
 simp_all
theorem IG:S 15 [dK mP,I 739035,I 101000] (gP mP) (.af [dK (Ln.w mP 250 0 739035 99750 1250), .agg [I 0,I 1250,I 99750,I 0]]) []:=
 IH 739035 101000 0 1250 99750 0 250 0 739035 99750 1250 (fun _=>by
  rw[show(fK mP 739035).1=1250 by kernel_rfl]
  exact⟨aT (by decide),aT (by decide),aT (by decide),aT (by decide),aT (by decide),aT (by decide)⟩) (by kernel_rfl) (by kernel_rfl) (by kernel_rfl) (by kernel_rfl) (by kernel_rfl)
theorem IF:S 15 [dK mP,I 738944,I 1] (gP mP) (.af [dK mP, .agg [I 4,I 0,I 0,I 0]]) []:=
 IH 738944 1 4 0 0 0 100000 0 738945 0 0 (fun h=>absurd h (by decide)) (by kernel_rfl) (by kernel_rfl) (by kernel_rfl) (by kernel_rfl) (by kernel_rfl)
theorem IE:S 15 [dK mP,I 738945,I (-1)] (gP mP) (.af [dK mP, .agg [I 2,I 0,I 0,I 0]]) []:=
 IH 738945 (-1) 2 0 0 0 100000 0 738945 0 0 (fun h=>absurd h (by decide)) (by kernel_rfl) (by kernel_rfl) (by kernel_rfl) (by kernel_rfl) (by kernel_rfl)
theorem HY (H:(decide ((5:Int)≥4))=true):
  S 10 [] [] (B true) []:=by
 refine ab.st fun X hX=> ?_
 have HE:=H
 exact(hX.to (congrArg B HE).symm).e [i_,i_,c_ [] JQ,f_ rf,q_ (show(0:Int)≤0∧0<((6:Nat):Int)from by decide),q_ (re 6),q_ (show(0:Int)≤0∧0<((6:Nat):Int)from by decide),d_ 8,c_ [4,5,6,7] Lp,c_ [4,5,6,7] Lo,c_ [4,5,6,7] IG,c_ [4,5,6,7] IF,c_ [4,5,6,7] IE,c_ [4,5,6,7] LD,i_,c_ [6] KX,n_ 50 (t_ rt)]
theorem FD:S 10 [] [] (B true) []:=HY (by decide)
end Go.Proofs.YtelidogcomffkaaGreatDoor
