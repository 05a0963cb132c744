/-
Calendars (chapter 13), of both.
-/
import Derived.Test.YtelidogcomffkaaGreatDoorRu
import Derived.Test.YtelidogcomffkaaGreatDoorProg
import Derived.KernelRfl
set_option linter.unusedSectionVars false
set_option linter.unusedSimpArgs false
set_option linter.unusedVariables false
set_option maxRecDepth 100000
namespace Go.Proofs.YtelidogcomffkaaGreatDoor
open Go Go.Sx
variable [Env]
theorem H3 {n:Nat} {g:Nat→Int} (h0:0<n) (hn:n≤10000):S 101 [.sl 0 n] [ri n g] (.sl 1 n) [ro n g]:=by
 refine ab.st fun X hX=> ?_
 obtain⟨q,h1⟩: ∃ q:Nat→Int, ∀ k,k<(0+n)→q k=if k<0 then 0 else(g (k-0)):=⟨_,fun k _=>rfl⟩
 have h2:(0+n)*8≤140737488355328:=by omega
 have hX':av X Tryz.prog GL 101 [ri n g] (.sl 1 (0+n)) [ro (0+n) q]:=by
  rw[Nat.zero_add]
  refine av.same hX ⟨⟨rfl,rfl,rfl,rfl,fun i hi=> ?_⟩,trivial⟩
  show[I (q i)]=[I (g i)]
  rw[h1 i (by omega),if_neg (Nat.not_lt_zero _),Nat.sub_zero]
 exact hX'.e [q_ (re n),q_ h0,f_ rf,q_ (show ∀ k,k<0→(fun i=>[I 0]) k=[].getD k []from by intro k hk;omega),q_ (re n),q_ (re 0),q_ h2,q_ (show ∀ k,k<0+n→(fun i=>[I (q i)]) k=if k<0 then(fun i=>[I 0]) k else(fun i=>[I (g i)]) (k-0)from fun k hk=>by
   have e0:=h1 k hk
   by_cases c:k<0
   ·rw[if_pos c]at e0⊢;simp only[e0]
   ·rw[if_neg c]at e0⊢;simp only[e0]),h_ [.row (fun i=>[I 0]), .row (fun i=>[I (q i)])]] [2]
def hasB (g:Nat→Int) (v:Int):Nat→Bool
 |0=>false
 |n+1=>hasB g v n||(g n==v)
theorem mX {g:Nat→Int} {v:Int}: ∀ {n:Nat},hasB g v n=true↔ ∃ i,i<n∧g i=v
 |0=>⟨fun h=>(by cases h),fun⟨i,hi,_⟩=>absurd hi (Nat.not_lt_zero _)⟩
 |n+1=>by
  rw[hasB,Bool.or_eq_true,mX (n:=n),beq_iff_eq]
  constructor
  ·rintro (⟨i,hi,h⟩|h)
   ·exact⟨i,by omega,h⟩
   ·exact⟨n,by omega,h⟩
  ·rintro ⟨i,hi,h⟩
   by_cases c:i<n
   ·exact .inl ⟨i,c,h⟩
   ·rw[show n=i by omega];exact .inr h
theorem su {g:Nat→Int} {v:Int} {n:Nat} (h: ∀ i,i<n→g i≠v):hasB g v n=false:=by
 rw[←Bool.not_eq_true,mX];rintro ⟨i,hi,e⟩;exact h i hi e
noncomputable def cr (n1:Nat) (g2:Nat→Int) (x1:Int) (x2:Int) (x3:Int) (x4:Int):SC:=
 ⟨[⟨131,bJ 19 [(0, .sl 0 n1),(1,I x1),(7,I x2),(8,I x3)],[.code (aa Tryz.f131 [1,0,1,0,0]), .inLoop (aa Tryz.f131 [1,0,1,0,0]), .inBlock 0, .code (aa Tryz.f131 [1,1])],{}⟩,⟨104,[none,none,none,none,none,some (.sl 0 n1),some (I x4),none,none],[.inRegion (aU Tryz.f104 [1,0]) [2,3,4], .code (aa Tryz.f104 [1,1])],{}⟩],[ri n1 g2]⟩
theorem Cb {X:Cx} {n:Nat} {g:Nat→Int} {v:Int} (hn:n≤10000) (hX:Fi X 104 [ri n g] (B (hasB g v n)) []): ∀ (f i:Nat) (x:Int),x=(i:Int)→n=i+f→(∀ j,j<i→g j≠v)→
  Ok X (cr n g v (n:Int) x v):=by
 intro f
 induction f with
 |zero=>
  intro i x hx hi hj
  have h0: ¬x<(n:Int):=by omega
  exact(hX.to (show _=B (decide (((-1):Int)≥0))by rw[su (fun j hj'=>hj j (by omega))];rfl)).e [f_ (df h0)]
 |succ f ih=>
  intro i x hx hi hj
  have h0:x<(n:Int):=by omega
  have h1:(0:Int)≤x∧x<((n:Nat):Int):=by omega
  refine hX.go [t_ (dt h0),q_ h1,q_ (re n),q_ h1] ?_
  have e1:x.toNat=i:=by omega
  by_cases h2:v=(g x.toNat)
  ·exact(hX.to (show _=B (decide (x≥0))by rw[mX.2 ⟨i,by omega,by rw[←e1];exact h2.symm⟩,decide_eq_true h1.1])).e [t_ (beq_iff_eq.2 h2)]
  ·have h3:Ir (x+1):=by simp only[Ir,aj];omega
   refine hX.h 8 [f_ (beq_eq_false_iff_ne.2 h2),q_ h3] (aA 1) (show Ok X (cr n g v (n:Int) (x+1) v)from ih (i+1) _ (by omega) (by omega) (fun j hj'=> ?_))
   by_cases c:j<i
   ·exact hj j c
   ·rw[show j=i by omega,←e1];exact fun e=>h2 e.symm
theorem JR {n:Nat} {g:Nat→Int} {v:Int} (hn:n≤10000):S 104 [.sl 0 n,I v] [ri n g] (B (hasB g v n)) []:=
 ab.st fun X hX=>hX.h 22 [i_] (aA 1) (show Ok X (cr n g v ((n:Nat):Int) 0 v)from Cb hn hX n 0 0 rfl (by omega) (fun j hj=>absurd hj (Nat.not_lt_zero _)))
def fZ (a:Int) (g:Nat→Int) (n:Nat) (b:Int) (i:Nat):Int:=if i=0 then a else if i<n+1 then g (i-1)else b
theorem Lg {a:Int} {n:Nat} {g:Nat→Int} {b:Int} (hn:n≤10000):
  S 105 [.sl 0 3] [some (.row false 26 3 1 (a_ [[.sl 1 1],[.sl 2 n],[.sl 3 1]])),some (.row false 3 1 1 (fun i=>[I a])),ri n g,some (.row false 3 1 1 (fun i=>[I b]))] (.sl 4 (n+2)) [ro (n+2) (fZ a g n b)]:=by
 refine ab.st (hh:=⟨fun i=>(by match i with|0=>rfl|1=>rfl|2=>rfl|i+3=>rfl),fun _=>rfl,fun _=>rfl,fun _=>rfl,trivial⟩) fun X hX=> ?_
 have h0:Ir (1+((n:Nat):Int)):=by simp only[Ir,aj];omega
 have h1: ¬(1+((n:Nat):Int))<0:=by omega
 have h2:Ir ((1+((n:Nat):Int))+1):=by simp only[Ir,aj];omega
 have h3: ¬((1+((n:Nat):Int))+1)<0:=by omega
 have h4:Ir (((1+((n:Nat):Int))+1)-0):=by simp only[Ir,aj];omega
 have h5:(((1+((n:Nat):Int))+1)-0)>0:=by omega
 have h6:(0:Int)<(((1+((n:Nat):Int))+1)-0):=by omega
 have h7:((((1+((n:Nat):Int))+1)-0).toNat)*8≤140737488355328:=by omega
 have h8:(0:Int)≤0∧0≤((((((1+((n:Nat):Int))+1)-0).toNat):Nat):Int):=by omega
 obtain⟨q1,h9⟩: ∃ q1:Nat→Int, ∀ k,k<1→q1 k=if k<0 then 0 else a:=⟨_,fun k _=>rfl⟩
 obtain⟨q2,h10⟩: ∃ q2:Nat→Int, ∀ k,k<(1+n)→q2 k=if k<1 then(q1 k)else(g (k-1)):=⟨_,fun k _=>rfl⟩
 have h11:(1+n)*8≤140737488355328:=by omega
 obtain⟨q3,h12⟩: ∃ q3:Nat→Int, ∀ k,k<((1+n)+1)→q3 k=if k<(1+n)then(q2 k)else b:=⟨_,fun k _=>rfl⟩
 have h13:((1+n)+1)*8≤140737488355328:=by omega
 have hX':av X Tryz.prog GL 105 [some (.row false 26 3 1 (a_ [[.sl 1 1],[.sl 2 n],[.sl 3 1]])),some (.row false 3 1 1 (fun i=>[I a])),ri n g,some (.row false 3 1 1 (fun i=>[I b]))] (.sl 4 ((1+n)+1)) [ro ((1+n)+1) q3]:=by
  have e:(1+n)+1=n+2:=by omega
  rw[e]
  refine av.same hX ⟨⟨rfl,rfl,rfl,rfl,fun i hi=> ?_⟩,trivial⟩
  show[I (q3 i)]=[I (fZ a g n b i)]
  rw[h12 i (by omega)]
  unfold fZ
  by_cases c1:i=0
  ·rw[if_pos (by omega),h10 i (by omega),if_pos (by omega),h9 i (by omega),if_neg (by omega),if_pos c1]
  ·rw[if_neg c1]
   by_cases c2:i<n+1
   ·rw[if_pos (by omega),h10 i (by omega),if_neg (by omega),if_pos c2]
   ·rw[if_neg (by omega),if_neg c2]
 exact hX'.e [t_ rt,q_ (show(0:Int)≤0∧0<((3:Nat):Int)from by decide),q_ (re 3),q_ (show(0:Int)≤0∧0<((3:Nat):Int)from by decide),q_ (show Ir 1 from by decide),f_ rf,q_ (show Ir 1 from by decide),t_ rt,q_ (show(0:Int)≤1∧1<((3:Nat):Int)from by decide),q_ (re 3),q_ (show(0:Int)≤1∧1<((3:Nat):Int)from by decide),q_ h0,f_ (df h1),q_ (show Ir 2 from by decide),t_ rt,q_ (show(0:Int)≤2∧2<((3:Nat):Int)from by decide),q_ (re 3),q_ (show(0:Int)≤2∧2<((3:Nat):Int)from by decide),q_ h2,f_ (df h3),q_ (show Ir 3 from by decide),f_ rf,i_,f_ (df h3),q_ (show Ir 0 from by decide),q_ h4,t_ (dt h5),q_ (show(0:Int)=0 from rfl),q_ h6,q_ h7,q_ h8,q_ (show((((1+((n:Nat):Int))+1)-0).toNat)=((((1+((n:Nat):Int))+1)-0).toNat)from rfl),h_ [.cut],t_ rt,q_ (show(0:Int)≤0∧0<((3:Nat):Int)from by decide),q_ (re 3),q_ (show(0:Int)≤0∧0<((3:Nat):Int)from by decide),q_ (re 1),q_ (re 0),q_ (show(0+1)*8≤140737488355328 from by first|decide|omega|(constructor<;>omega)),q_ (show ∀ k,k<0+1→(fun i=>[I (q1 i)]) k=if k<0 then(fun i=>[I 0]) k else(fun i=>[I a]) (k-0)from fun k hk=>by
   have e0:=h9 k hk
   by_cases c:k<0
   ·rw[if_pos c]at e0⊢;simp only[e0]
   ·rw[if_neg c]at e0⊢;simp only[e0]),q_ (show Ir 1 from by decide),h_ [.row (fun i=>[I (q1 i)])],t_ rt,q_ (show(0:Int)≤1∧1<((3:Nat):Int)from by decide),q_ (re 3),q_ (show(0:Int)≤1∧1<((3:Nat):Int)from by decide),q_ (re n),q_ (re 1),q_ h11,q_ (show ∀ k,k<1+n→(fun i=>[I (q2 i)]) k=if k<1 then(fun i=>[I (q1 i)]) k else(fun i=>[I (g i)]) (k-1)from fun k hk=>by
   have e0:=h10 k hk
   by_cases c:k<1
   ·rw[if_pos c]at e0⊢;simp only[e0]
   ·rw[if_neg c]at e0⊢;simp only[e0]),q_ (show Ir 2 from by decide),h_ [.row (fun i=>[I (q2 i)])],t_ rt,q_ (show(0:Int)≤2∧2<((3:Nat):Int)from by decide),q_ (re 3),q_ (show(0:Int)≤2∧2<((3:Nat):Int)from by decide),q_ (re 1),q_ (show(1+n)=(1+n)from rfl),q_ h13,q_ (show ∀ k,k<(1+n)+1→(fun i=>[I (q3 i)]) k=if k<(1+n)then(fun i=>[I (q2 i)]) k else(fun i=>[I b]) (k-(1+n))from fun k hk=>by
   have e0:=h12 k hk
   by_cases c:k<(1+n)
   ·rw[if_pos c]at e0⊢;simp only[e0]
   ·rw[if_neg c]at e0⊢;simp only[e0]),q_ (show Ir 3 from by decide),h_ [.row (fun i=>[I (q3 i)])],f_ rf] [8]
theorem ry {a:Int} {n:Nat} {g:Nat→Int} {b:Int} (f:Nat→List SV) (hn:n≤10000) (hf: ∀ i,i<3→f i=a_ [[.sl 1 1],[.sl 2 n],[.sl 3 1]] i):
  S 105 [.sl 0 3] [some (.row false 26 3 1 f),some (.row false 3 1 1 (fun i=>[I a])),ri n g,some (.row false 3 1 1 (fun i=>[I b]))] (.sl 4 (n+2)) [ro (n+2) (fZ a g n b)]:=
 ab.same (Lg hn) ⟨⟨rfl,rfl,rfl,rfl,hf⟩,Vw.iI _,Vw.iI _,Vw.iI _,trivial⟩ ⟨Vw.iI _,trivial⟩
end Go.Proofs.YtelidogcomffkaaGreatDoor
namespace Go.Proofs.YtelidogcomffkaaGreatDoor
open Go Go.Sx
variable [Env]
structure Cl where
 off:Nat→Bool
 nr:Nat
 R:Nat→Rl
 nd:Nat
 D:Nat→Int
abbrev aB (C:Cl):List (Option Vw):=[some (.row false 109 C.nr 8 (fun i=>[I ((C.R i).kind),I ((C.R i).aY),I ((C.R i).day),I ((C.R i).k),I ((C.R i).off),I ((C.R i).sh),I ((C.R i).fr),I ((C.R i).to)])),some (.row false 3 C.nd 1 (fun i=>[I (C.D i)]))]
abbrev qY (C:Cl):SV:= .agg [B (C.off 0),B (C.off 1),B (C.off 2),B (C.off 3),B (C.off 4),B (C.off 5),B (C.off 6), .sl 0 C.nr, .sl 1 C.nd]
def qB (g:Nat→Int) (n:Nat):Prop:= ∀ i,i+1<n→g i<g (i+1)
theorem qB.lt {g:Nat→Int} {n:Nat} (h:qB g n): ∀ {k i:Nat},i+k+1<n→g i<g (i+k+1)
 |0,i,hk=>h i hk
 |k+1,i,hk=>by
  have h1:=h.lt (k:=k) (i:=i) (by omega)
  have h2:=h (i+k+1) (by omega)
  grind
theorem qB.Lu {g:Nat→Int} {n i j:Nat} (h:qB g n) (hij:i<j) (hj:j<n):g i<g j:=by
 have:=h.lt (k:=j-i-1) (i:=i) (by omega)
 grind
def rY (g:Nat→Int) (v:Int):Nat→Nat
 |0=>0
 |n+1=>rY g v n+if g n<v then 1 else 0
theorem wN {g:Nat→Int} {v:Int} {k:Nat}: ∀ {n:Nat},k≤n→(∀ i,i<k→g i<v)→(∀ i,k≤i→i<n→v≤g i)→rY g v n=k
 |0,hk,_,_=>by show 0=k;omega
 |n+1,hk,h1,h2=>by
  unfold rY
  rcases Nat.lt_or_ge n k with c|c
  ·have e:k=n+1:=by omega
   rw[wN (k:=n) (Nat.le_refl _) (fun i hi=>h1 i (by omega)) (fun i hi hi'=>by omega),if_pos (h1 n (by omega))];omega
  ·rw[wN (k:=k) c h1 (fun i hi hi'=>h2 i hi (by omega)),if_neg (by have:=h2 n c (by omega);omega),Nat.add_zero]
def vo (R:Nat→Rl) (n:Int):Nat→Bool
 |0=>false
 |k+1=>vo R n k||tF (R k) n
theorem AI {R:Nat→Rl} {n:Int}: ∀ {k:Nat},(∀ i,i<k→tF (R i) n=false)→vo R n k=false
 |0,_=>rfl
 |k+1,h=>by unfold vo;rw[AI (fun i hi=>h i (by omega)),h k (by omega)];rfl
theorem AH {R:Nat→Rl} {n:Int} {i:Nat} (hi:tF (R i) n=true): ∀ {k:Nat},i<k→vo R n k=true
 |0,h=>absurd h (Nat.not_lt_zero _)
 |k+1,h=>by
  unfold vo
  rcases Nat.lt_or_ge i k with c|c
  ·rw[AH hi c];rfl
  grind
def gK (C:Cl) (n:Int):Bool:=ai n&&(!(C.off (bI n).toNat)&&(!(hasB C.D n C.nd)&& !(vo C.R n C.nr)))
def wG (C:Cl):Bool:= !(C.off 0)||(!(C.off 1)||(!(C.off 2)||(!(C.off 3)||(!(C.off 4)||(!(C.off 5)|| !(C.off 6))))))
structure bU (C:Cl):Prop where
 op:wG C=true
 nr:C.nr≤100
 nd:C.nd≤1000
 rules: ∀ i,i<C.nr→cQ (C.R i)=true
 days: ∀ i,i<C.nd→ai (C.D i)=true
 xF:qB C.D C.nd
open Classical in
noncomputable def dI (C:Cl):Bool:=decide (bU C)
theorem uw {C:Cl}:dI C=true↔bU C:=by unfold dI;simp
theorem oD {a1:Int} {res:SV} (H:(B (a1 !=a1):SV)=res):
  S 235 [I a1] [] (res) []:=by
 refine ab.st fun X hX=> ?_
 have HE:=H
 exact(hX.to HE.symm).e []
theorem Lf (n:Int):S 235 [I n] [] (B false) []:=oD (by simp)
noncomputable def oo (n1:Nat) (g2:Nat→Int) (x1:Int) (x2:Int) (x3:Int) (x4:Int):SC:=
 ⟨[⟨209,bJ 54 [(0, .sl 0 n1),(1,I x1),(6,I x2),(7,I x3),(8,I x4)],[.code (aa Tryz.f209 [1,1,1,0,0,0]), .inLoop (aa Tryz.f209 [1,1,1,0,0,0]), .inBlock 0, .code (aa Tryz.f209 [1,1,1,1])],{}⟩],[ri n1 g2]⟩
theorem FG {X:Cx} {n1:Nat} {g2:Nat→Int} {a3:Int} {res:SV} (hX:Fi X 209 [ri n1 g2] (res) []) (H:Ok X (oo n1 g2 a3 ((n1:Nat):Int) 0 ((n1:Nat):Int))):
  Ok X (entry Tryz.prog 209 [.sl 0 n1,I a3] [ri n1 g2]):=by
 have k:=H
 exact hX.h 20 [] (aA 1) k
theorem AZ {X:Cx} {n1:Nat} {g2:Nat→Int} {x1 x2 x3 x4:Int} {res:SV} (hX:Fi X 209 [ri n1 g2] (res) []) (H:(x3<x4→Ir (x3+x4)∧jn (x3+x4)∧Ir (bq .u64 (x3+x4) 1)∧((0:Int)≤(bq .u64 (x3+x4) 1)∧(bq .u64 (x3+x4) 1)<((n1:Nat):Int))∧((g2 ((bq .u64 (x3+x4) 1).toNat))<x1→Ir ((bq .u64 (x3+x4) 1)+1)∧Ok X (oo n1 g2 x1 x2 ((bq .u64 (x3+x4) 1)+1) x4))∧(¬(g2 ((bq .u64 (x3+x4) 1).toNat))<x1→Ok X (oo n1 g2 x1 x2 x3 (bq .u64 (x3+x4) 1))))∧(¬x3<x4→(x3<x2→((0:Int)≤x3∧x3<((n1:Nat):Int))∧((g2 x3.toNat)=x1→((.af [I x3,B true]):SV)=res)∧((g2 x3.toNat)≠x1→((.af [I x3,B false]):SV)=res))∧(¬x3<x2→((.af [I x3,B false]):SV)=res))):
  Ok X (oo n1 g2 x1 x2 x3 x4):=by
 obtain⟨L0,K0⟩:=H
 by_cases h0:x3<x4
 ·obtain⟨h1,h2,h3,h4,L5,K5⟩:=L0 h0
  refine hX.go [t_ (dt h0),q_ h1,q_ h2,q_ (show(0:Int)≤1 from by decide),q_ h3,q_ h4,q_ (re n1),q_ h4,c_ [] (show S 234 [I (g2 ((bq .u64 (x3+x4) 1).toNat)),I x1] [] (B (decide ((g2 ((bq .u64 (x3+x4) 1).toNat))<x1))) []from pO)] ?_
  by_cases h5:(g2 ((bq .u64 (x3+x4) 1).toNat))<x1
  ·obtain⟨h6,k⟩:=L5 h5
   exact hX.h 8 [t_ (dt h5),q_ h6] (aA 1) k
  ·have k:=K5 h5
   exact hX.h 7 [f_ (df h5)] (aA 1) k
 ·obtain⟨L1,K1⟩:=K0 h0
  refine hX.go [f_ (df h0)] ?_
  by_cases h1:x3<x2
  ·obtain⟨h2,L3,K3⟩:=L1 h1
   refine hX.go [n_ 3 (t_ (dt h1)),q_ h2,q_ (re n1),t_ (dt h1),q_ h2,n_ 3 (t_ (dt h1))] ?_
   by_cases h3:(g2 x3.toNat)=x1
   ·have HE:=L3 h3
    exact(hX.to HE.symm).e [n_ 7 (t_ (beq_iff_eq.2 h3)),t_ (dt h1),t_ (beq_iff_eq.2 h3),t_ (dt h1)]
   ·have HE:=K3 h3
    exact(hX.to HE.symm).e [n_ 3 (f_ (beq_eq_false_iff_ne.2 h3)),q_ h2,q_ (re n1),f_ (beq_eq_false_iff_ne.2 h3),q_ h2,f_ (beq_eq_false_iff_ne.2 h3),c_ [] (Lf (g2 x3.toNat)),f_ (beq_eq_false_iff_ne.2 h3),f_ rf,f_ rf,f_ (beq_eq_false_iff_ne.2 h3),f_ rf,t_ (dt h1),f_ (beq_eq_false_iff_ne.2 h3),t_ (dt h1)]
  ·have HE:=K1 h1
   exact(hX.to HE.symm).e [n_ 9 (f_ (df h1))]
theorem KY {a:Int} (h:0≤a):bq .u64 a 1=a/2:=by
 unfold bq
 rw[Int.fdiv_eq_ediv_of_nonneg _ (by decide)]
 rfl
theorem FH {X:Cx} {n:Nat} {g:Nat→Int} {v:Int} {res:SV} (hn:n≤10000) (hg:qB g n) (hX:Fi X 209 [ri n g] res []) (hr: .af [I ((rY g v n:Nat):Int),B (hasB g v n)]=res):
  ∀ (f lo hi:Nat),hi-lo≤f→lo≤hi→hi≤n→(∀ i,i<lo→g i<v)→(∀ i,hi≤i→i<n→v≤g i)→Ok X (oo n g v ((n:Nat):Int) ((lo:Nat):Int) ((hi:Nat):Int)):=by
 have fin: ∀ lo:Nat,lo≤n→(∀ i,i<lo→g i<v)→(∀ i,lo≤i→i<n→v≤g i)→Ok X (oo n g v ((n:Nat):Int) ((lo:Nat):Int) ((lo:Nat):Int)):=by
  intro lo h1 h2 h3
  have hl:=wN h1 h2 h3
  refine AZ hX ⟨fun c=>absurd c (by omega),fun _=>⟨fun c=>⟨by omega,fun e=> ?_,fun e=> ?_⟩,fun c=> ?_⟩⟩
  ·rw[Int.toNat_natCast]at e
   rw[←hr,hl,mX.2 ⟨lo,by omega,e⟩]
  ·rw[Int.toNat_natCast]at e
   rw[←hr,hl,su]
   intro i hi
   rcases Nat.lt_trichotomy i lo with c1|c1|c1
   ·have:=h2 i c1;omega
   ·rw[c1];exact e
   ·have:=h3 lo (Nat.le_refl _) (by omega);have:=hg.Lu c1 hi;omega
  ·rw[←hr,hl,su]
   grind
 intro f
 induction f with
 |zero=>
  intro lo hi hf h1 h2 h3 h4
  have e:hi=lo:=by omega
  simp_all
 |succ f ih=>
  intro lo hi hf h1 h2 h3 h4
  rcases Nat.lt_or_ge lo hi with c|c
  ·have es:bq .u64 ((lo:Int)+(hi:Int)) 1=(((lo+hi)/2:Nat):Int):=by rw[KY (by omega)];omega
   refine AZ hX ⟨fun _=> ?_,fun d=>absurd (show(lo:Int)<(hi:Int)by omega) d⟩
   rw[es]
   have m1:(lo+hi)/2<hi:=by omega
   have m2:lo≤(lo+hi)/2:=by omega
   generalize (lo+hi)/2=m at*
   refine⟨aT (by omega),by simp only[aj];omega,aT (by omega),by omega,fun d=>⟨aT (by omega), ?_⟩,fun d=> ?_⟩
   ·rw[Int.toNat_natCast]at d
    refine ih (m+1) hi (by omega) (by omega) h2 (fun i hi'=> ?_) h4
    rcases Nat.lt_or_ge i m with c1|c1
    ·have:=hg.Lu c1 (show m<n by omega);omega
    grind
   ·rw[Int.toNat_natCast]at d
    refine ih lo m (by omega) (by omega) (by omega) h3 (fun i hi1 hi2=> ?_)
    rcases Nat.lt_or_ge m i with c1|c1
    ·have:=hg.Lu c1 hi2;omega
    grind
  ·have e:hi=lo:=by omega
   simp_all
theorem zi {n:Nat} {g:Nat→Int} {v:Int} (hn:n≤10000) (hg:qB g n):S 209 [.sl 0 n,I v] [ri n g] (.af [I ((rY g v n:Nat):Int),B (hasB g v n)]) []:=
 ab.st fun X hX=>FG hX (FH hn hg hX rfl n 0 n (Nat.le_refl _) (Nat.zero_le _) (Nat.le_refl _) (fun i hi=>absurd hi (Nat.not_lt_zero _)) (fun i h1 h2=>by omega))
theorem CF {a1:Int} {res:SV} (H:(B ((cE a1)==0):SV)=res):
  S 207 [I a1] [] (res) []:=by
 refine ab.st fun X hX=> ?_
 have HE:=H
 exact(hX.to HE.symm).e [c_ [] (fg a1)]
theorem AD (n:Int):S 207 [I n] [] (B (ai n)) []:=by
 refine CF ?_
 rw[show((cE n)==0)=ai n by unfold cE;cases ai n<;>rfl]
theorem pP {n k:Int} (h:(0:Int)≤n) (hk:bI n=k):S 208 [I n] [] (I k) []:=hk▸BO h
theorem pz {n k:Int} (h:(0:Int)≤n) (hk:bI n=k):S 128 [I n] [] (I k) []:=hk▸A9 h
noncomputable def dJ (C:Cl) (x1:Int) (x2:Int) (x3:Int):SC:=
 ⟨[⟨236,bJ 19 [(0, .sl 0 C.nr),(1, .fn (.func 211) [] [.ptr 3 0]),(7,I x1),(8,I x2)],[.code (aa Tryz.f236 [1,0,1,0,0]), .inLoop (aa Tryz.f236 [1,0,1,0,0]), .inBlock 0, .code (aa Tryz.f236 [1,1])],{}⟩,⟨210,[none,none,none,none,none,some (.sl 0 C.nr),some (.fn (.func 211) [] [.ptr 3 0]),none,none],[.inRegion (aU Tryz.f210 [1,0]) [2,3,4], .code (aa Tryz.f210 [1,1])],{}⟩,⟨166,bJ 30 [(26, .sl 0 C.nr),(27, .fn (.func 211) [] [.ptr 3 0])],[.inRegion (aU Tryz.f166 [1,1,1,0]) [3,4,5], .code (aa Tryz.f166 [1,1,1,1])],{}⟩],[some (.row false 109 C.nr 8 (fun i=>[I ((C.R i).kind),I ((C.R i).aY),I ((C.R i).day),I ((C.R i).k),I ((C.R i).off),I ((C.R i).sh),I ((C.R i).fr),I ((C.R i).to)])),some (.row false 3 C.nd 1 (fun i=>[I (C.D i)])),none,some (.box true [I x3])]⟩
theorem yN {X:Cx} {C:Cl} {a1:Int} {res:SV} (hX:Fi X 166 (aB C) (res) []) (H:((ai a1)=false→(B false:SV)=res)∧((ai a1)=true→(0:Int)≤a1∧bI a1=0∧((C.off 0)=true→(B false:SV)=res)∧((C.off 0)=false→C.nd≤10000∧qB (fun i=>C.D i) C.nd∧((hasB (fun i=>C.D i) a1 C.nd)=true→(B false:SV)=res)∧((hasB (fun i=>C.D i) a1 C.nd)=false→Ok X (dJ C ((C.nr:Nat):Int) 0 a1))))):
  Ok X (entry Tryz.prog 166 [.agg [B (C.off 0),B (C.off 1),B (C.off 2),B (C.off 3),B (C.off 4),B (C.off 5),B (C.off 6), .sl 0 C.nr, .sl 1 C.nd],I a1] (aB C)):=by
 obtain⟨L0,K0⟩:=H
 refine hX.go [c_ [] (AD a1)] ?_
 rcases aq (ai a1)with h0|h0
 ·obtain⟨h1,h2,L3,K3⟩:=K0 h0
  refine hX.go [f_ (nf h0),f_ (nf h0),c_ [] (show S 208 [I a1] [] (I 0) []from pP h1 h2),f_ (nf h0),f_ (nf h0),q_ (show(0:Int)≤0∧0<((7:Nat):Int)from by decide),f_ (nf h0),f_ (nf h0)] ?_
  rcases aq (C.off 0)with h3|h3
  ·have HE:=L3 h3
   exact(hX.to HE.symm).e [t_ h3]
  ·obtain⟨h4,h5,L6,K6⟩:=K3 h3
   refine hX.go [f_ h3,c_ [1] (show S 209 [.sl 0 C.nd,I a1] [some (.row false 3 C.nd 1 (fun i=>[I (C.D i)]))] (.af [I (((rY (fun i=>C.D i) a1 C.nd:Nat):Int)),B (hasB (fun i=>C.D i) a1 C.nd)]) []from zi h4 h5)] ?_
   rcases aq (hasB (fun i=>C.D i) a1 C.nd)with h6|h6
   ·have HE:=L6 h6
    exact(hX.to HE.symm).e [t_ h6]
   ·have k:=K6 h6
    exact hX.h 30 [f_ h6,i_,i_] [.ae 0, .ae 1, .ae 1002, .ae 3] k
 ·have HE:=L0 h0
  exact(hX.to HE.symm).e [n_ 6 (t_ (nt h0)),t_ rt]
theorem yM {X:Cx} {C:Cl} {x1 x2 x3:Int} {res:SV} (hX:Fi X 166 (aB C) (res) []) (H:(x2<x1→((0:Int)≤x2∧x2<((C.nr:Nat):Int))∧cQ (C.R x2.toNat)=true∧((tF (C.R x2.toNat) x3)=true→(B (!decide (x2≥0)):SV)=res)∧((tF (C.R x2.toNat) x3)=false→Ir (x2+1)∧Ok X (dJ C x1 (x2+1) x3)))∧(¬x2<x1→(B (!decide (((-1):Int)≥0)):SV)=res)):
  Ok X (dJ C x1 x2 x3):=by
 obtain⟨L0,K0⟩:=H
 by_cases h0:x2<x1
 ·obtain⟨h1,h2,L3,K3⟩:=L0 h0
  refine hX.go [t_ (dt h0),q_ h1,q_ (show C.nr=C.nr from rfl),q_ h1,i_,c_ [] (show S 212 [.agg [I ((C.R x2.toNat).kind),I ((C.R x2.toNat).aY),I ((C.R x2.toNat).day),I ((C.R x2.toNat).k),I ((C.R x2.toNat).off),I ((C.R x2.toNat).sh),I ((C.R x2.toNat).fr),I ((C.R x2.toNat).to)],I x3] [] (B (tF (C.R x2.toNat) x3)) []from MI h2)] ?_
  rcases aq (tF (C.R x2.toNat) x3)with h3|h3
  ·have HE:=L3 h3
   exact(hX.to HE.symm).e [t_ h3]
  ·obtain⟨h4,k⟩:=K3 h3
   exact hX.h 8 [f_ h3,q_ h4] [.ae 0, .ae 1, .ae 1002, .ae 3] k
 ·have HE:=K0 h0
  exact(hX.to HE.symm).e [f_ (df h0)]
theorem ES {X:Cx} {C:Cl} {a1:Int} {res:SV} (hX:Fi X 166 (aB C) (res) []) (H:((ai a1)=false→(B false:SV)=res)∧((ai a1)=true→(0:Int)≤a1∧bI a1=1∧((C.off 1)=true→(B false:SV)=res)∧((C.off 1)=false→C.nd≤10000∧qB (fun i=>C.D i) C.nd∧((hasB (fun i=>C.D i) a1 C.nd)=true→(B false:SV)=res)∧((hasB (fun i=>C.D i) a1 C.nd)=false→Ok X (dJ C ((C.nr:Nat):Int) 0 a1))))):
  Ok X (entry Tryz.prog 166 [.agg [B (C.off 0),B (C.off 1),B (C.off 2),B (C.off 3),B (C.off 4),B (C.off 5),B (C.off 6), .sl 0 C.nr, .sl 1 C.nd],I a1] (aB C)):=by
 obtain⟨L0,K0⟩:=H
 refine hX.go [c_ [] (AD a1)] ?_
 rcases aq (ai a1)with h0|h0
 ·obtain⟨h1,h2,L3,K3⟩:=K0 h0
  refine hX.go [f_ (nf h0),f_ (nf h0),c_ [] (show S 208 [I a1] [] (I 1) []from pP h1 h2),f_ (nf h0),f_ (nf h0),q_ (show(0:Int)≤1∧1<((7:Nat):Int)from by decide),f_ (nf h0),f_ (nf h0)] ?_
  rcases aq (C.off 1)with h3|h3
  ·have HE:=L3 h3
   exact(hX.to HE.symm).e [t_ h3]
  ·obtain⟨h4,h5,L6,K6⟩:=K3 h3
   refine hX.go [f_ h3,c_ [1] (show S 209 [.sl 0 C.nd,I a1] [some (.row false 3 C.nd 1 (fun i=>[I (C.D i)]))] (.af [I (((rY (fun i=>C.D i) a1 C.nd:Nat):Int)),B (hasB (fun i=>C.D i) a1 C.nd)]) []from zi h4 h5)] ?_
   rcases aq (hasB (fun i=>C.D i) a1 C.nd)with h6|h6
   ·have HE:=L6 h6
    exact(hX.to HE.symm).e [t_ h6]
   ·have k:=K6 h6
    exact hX.h 30 [f_ h6,i_,i_] [.ae 0, .ae 1, .ae 1002, .ae 3] k
 ·have HE:=L0 h0
  exact(hX.to HE.symm).e [n_ 6 (t_ (nt h0)),t_ rt]
theorem ER {X:Cx} {C:Cl} {a1:Int} {res:SV} (hX:Fi X 166 (aB C) (res) []) (H:((ai a1)=false→(B false:SV)=res)∧((ai a1)=true→(0:Int)≤a1∧bI a1=2∧((C.off 2)=true→(B false:SV)=res)∧((C.off 2)=false→C.nd≤10000∧qB (fun i=>C.D i) C.nd∧((hasB (fun i=>C.D i) a1 C.nd)=true→(B false:SV)=res)∧((hasB (fun i=>C.D i) a1 C.nd)=false→Ok X (dJ C ((C.nr:Nat):Int) 0 a1))))):
  Ok X (entry Tryz.prog 166 [.agg [B (C.off 0),B (C.off 1),B (C.off 2),B (C.off 3),B (C.off 4),B (C.off 5),B (C.off 6), .sl 0 C.nr, .sl 1 C.nd],I a1] (aB C)):=by
 obtain⟨L0,K0⟩:=H
 refine hX.go [c_ [] (AD a1)] ?_
 rcases aq (ai a1)with h0|h0
 ·obtain⟨h1,h2,L3,K3⟩:=K0 h0
  refine hX.go [f_ (nf h0),f_ (nf h0),c_ [] (show S 208 [I a1] [] (I 2) []from pP h1 h2),f_ (nf h0),f_ (nf h0),q_ (show(0:Int)≤2∧2<((7:Nat):Int)from by decide),f_ (nf h0),f_ (nf h0)] ?_
  rcases aq (C.off 2)with h3|h3
  ·have HE:=L3 h3
   exact(hX.to HE.symm).e [t_ h3]
  ·obtain⟨h4,h5,L6,K6⟩:=K3 h3
   refine hX.go [f_ h3,c_ [1] (show S 209 [.sl 0 C.nd,I a1] [some (.row false 3 C.nd 1 (fun i=>[I (C.D i)]))] (.af [I (((rY (fun i=>C.D i) a1 C.nd:Nat):Int)),B (hasB (fun i=>C.D i) a1 C.nd)]) []from zi h4 h5)] ?_
   rcases aq (hasB (fun i=>C.D i) a1 C.nd)with h6|h6
   ·have HE:=L6 h6
    exact(hX.to HE.symm).e [t_ h6]
   ·have k:=K6 h6
    exact hX.h 30 [f_ h6,i_,i_] [.ae 0, .ae 1, .ae 1002, .ae 3] k
 ·have HE:=L0 h0
  exact(hX.to HE.symm).e [n_ 6 (t_ (nt h0)),t_ rt]
theorem EP {X:Cx} {C:Cl} {a1:Int} {res:SV} (hX:Fi X 166 (aB C) (res) []) (H:((ai a1)=false→(B false:SV)=res)∧((ai a1)=true→(0:Int)≤a1∧bI a1=3∧((C.off 3)=true→(B false:SV)=res)∧((C.off 3)=false→C.nd≤10000∧qB (fun i=>C.D i) C.nd∧((hasB (fun i=>C.D i) a1 C.nd)=true→(B false:SV)=res)∧((hasB (fun i=>C.D i) a1 C.nd)=false→Ok X (dJ C ((C.nr:Nat):Int) 0 a1))))):
  Ok X (entry Tryz.prog 166 [.agg [B (C.off 0),B (C.off 1),B (C.off 2),B (C.off 3),B (C.off 4),B (C.off 5),B (C.off 6), .sl 0 C.nr, .sl 1 C.nd],I a1] (aB C)):=by
 obtain⟨L0,K0⟩:=H
 refine hX.go [c_ [] (AD a1)] ?_
 rcases aq (ai a1)with h0|h0
 ·obtain⟨h1,h2,L3,K3⟩:=K0 h0
  refine hX.go [f_ (nf h0),f_ (nf h0),c_ [] (show S 208 [I a1] [] (I 3) []from pP h1 h2),f_ (nf h0),f_ (nf h0),q_ (show(0:Int)≤3∧3<((7:Nat):Int)from by decide),f_ (nf h0),f_ (nf h0)] ?_
  rcases aq (C.off 3)with h3|h3
  ·have HE:=L3 h3
   exact(hX.to HE.symm).e [t_ h3]
  ·obtain⟨h4,h5,L6,K6⟩:=K3 h3
   refine hX.go [f_ h3,c_ [1] (show S 209 [.sl 0 C.nd,I a1] [some (.row false 3 C.nd 1 (fun i=>[I (C.D i)]))] (.af [I (((rY (fun i=>C.D i) a1 C.nd:Nat):Int)),B (hasB (fun i=>C.D i) a1 C.nd)]) []from zi h4 h5)] ?_
   rcases aq (hasB (fun i=>C.D i) a1 C.nd)with h6|h6
   ·have HE:=L6 h6
    exact(hX.to HE.symm).e [t_ h6]
   ·have k:=K6 h6
    exact hX.h 30 [f_ h6,i_,i_] [.ae 0, .ae 1, .ae 1002, .ae 3] k
 ·have HE:=L0 h0
  exact(hX.to HE.symm).e [n_ 6 (t_ (nt h0)),t_ rt]
theorem EO {X:Cx} {C:Cl} {a1:Int} {res:SV} (hX:Fi X 166 (aB C) (res) []) (H:((ai a1)=false→(B false:SV)=res)∧((ai a1)=true→(0:Int)≤a1∧bI a1=4∧((C.off 4)=true→(B false:SV)=res)∧((C.off 4)=false→C.nd≤10000∧qB (fun i=>C.D i) C.nd∧((hasB (fun i=>C.D i) a1 C.nd)=true→(B false:SV)=res)∧((hasB (fun i=>C.D i) a1 C.nd)=false→Ok X (dJ C ((C.nr:Nat):Int) 0 a1))))):
  Ok X (entry Tryz.prog 166 [.agg [B (C.off 0),B (C.off 1),B (C.off 2),B (C.off 3),B (C.off 4),B (C.off 5),B (C.off 6), .sl 0 C.nr, .sl 1 C.nd],I a1] (aB C)):=by
 obtain⟨L0,K0⟩:=H
 refine hX.go [c_ [] (AD a1)] ?_
 rcases aq (ai a1)with h0|h0
 ·obtain⟨h1,h2,L3,K3⟩:=K0 h0
  refine hX.go [f_ (nf h0),f_ (nf h0),c_ [] (show S 208 [I a1] [] (I 4) []from pP h1 h2),f_ (nf h0),f_ (nf h0),q_ (show(0:Int)≤4∧4<((7:Nat):Int)from by decide),f_ (nf h0),f_ (nf h0)] ?_
  rcases aq (C.off 4)with h3|h3
  ·have HE:=L3 h3
   exact(hX.to HE.symm).e [t_ h3]
  ·obtain⟨h4,h5,L6,K6⟩:=K3 h3
   refine hX.go [f_ h3,c_ [1] (show S 209 [.sl 0 C.nd,I a1] [some (.row false 3 C.nd 1 (fun i=>[I (C.D i)]))] (.af [I (((rY (fun i=>C.D i) a1 C.nd:Nat):Int)),B (hasB (fun i=>C.D i) a1 C.nd)]) []from zi h4 h5)] ?_
   rcases aq (hasB (fun i=>C.D i) a1 C.nd)with h6|h6
   ·have HE:=L6 h6
    exact(hX.to HE.symm).e [t_ h6]
   ·have k:=K6 h6
    exact hX.h 30 [f_ h6,i_,i_] [.ae 0, .ae 1, .ae 1002, .ae 3] k
 ·have HE:=L0 h0
  exact(hX.to HE.symm).e [n_ 6 (t_ (nt h0)),t_ rt]
theorem EN {X:Cx} {C:Cl} {a1:Int} {res:SV} (hX:Fi X 166 (aB C) (res) []) (H:((ai a1)=false→(B false:SV)=res)∧((ai a1)=true→(0:Int)≤a1∧bI a1=5∧((C.off 5)=true→(B false:SV)=res)∧((C.off 5)=false→C.nd≤10000∧qB (fun i=>C.D i) C.nd∧((hasB (fun i=>C.D i) a1 C.nd)=true→(B false:SV)=res)∧((hasB (fun i=>C.D i) a1 C.nd)=false→Ok X (dJ C ((C.nr:Nat):Int) 0 a1))))):
  Ok X (entry Tryz.prog 166 [.agg [B (C.off 0),B (C.off 1),B (C.off 2),B (C.off 3),B (C.off 4),B (C.off 5),B (C.off 6), .sl 0 C.nr, .sl 1 C.nd],I a1] (aB C)):=by
 obtain⟨L0,K0⟩:=H
 refine hX.go [c_ [] (AD a1)] ?_
 rcases aq (ai a1)with h0|h0
 ·obtain⟨h1,h2,L3,K3⟩:=K0 h0
  refine hX.go [f_ (nf h0),f_ (nf h0),c_ [] (show S 208 [I a1] [] (I 5) []from pP h1 h2),f_ (nf h0),f_ (nf h0),q_ (show(0:Int)≤5∧5<((7:Nat):Int)from by decide),f_ (nf h0),f_ (nf h0)] ?_
  rcases aq (C.off 5)with h3|h3
  ·have HE:=L3 h3
   exact(hX.to HE.symm).e [t_ h3]
  ·obtain⟨h4,h5,L6,K6⟩:=K3 h3
   refine hX.go [f_ h3,c_ [1] (show S 209 [.sl 0 C.nd,I a1] [some (.row false 3 C.nd 1 (fun i=>[I (C.D i)]))] (.af [I (((rY (fun i=>C.D i) a1 C.nd:Nat):Int)),B (hasB (fun i=>C.D i) a1 C.nd)]) []from zi h4 h5)] ?_
   rcases aq (hasB (fun i=>C.D i) a1 C.nd)with h6|h6
   ·have HE:=L6 h6
    exact(hX.to HE.symm).e [t_ h6]
   ·have k:=K6 h6
    exact hX.h 30 [f_ h6,i_,i_] [.ae 0, .ae 1, .ae 1002, .ae 3] k
 ·have HE:=L0 h0
  exact(hX.to HE.symm).e [n_ 6 (t_ (nt h0)),t_ rt]
theorem EM {X:Cx} {C:Cl} {a1:Int} {res:SV} (hX:Fi X 166 (aB C) (res) []) (H:((ai a1)=false→(B false:SV)=res)∧((ai a1)=true→(0:Int)≤a1∧bI a1=6∧((C.off 6)=true→(B false:SV)=res)∧((C.off 6)=false→C.nd≤10000∧qB (fun i=>C.D i) C.nd∧((hasB (fun i=>C.D i) a1 C.nd)=true→(B false:SV)=res)∧((hasB (fun i=>C.D i) a1 C.nd)=false→Ok X (dJ C ((C.nr:Nat):Int) 0 a1))))):
  Ok X (entry Tryz.prog 166 [.agg [B (C.off 0),B (C.off 1),B (C.off 2),B (C.off 3),B (C.off 4),B (C.off 5),B (C.off 6), .sl 0 C.nr, .sl 1 C.nd],I a1] (aB C)):=by
 obtain⟨L0,K0⟩:=H
 refine hX.go [c_ [] (AD a1)] ?_
 rcases aq (ai a1)with h0|h0
 ·obtain⟨h1,h2,L3,K3⟩:=K0 h0
  refine hX.go [f_ (nf h0),f_ (nf h0),c_ [] (show S 208 [I a1] [] (I 6) []from pP h1 h2),f_ (nf h0),f_ (nf h0),q_ (show(0:Int)≤6∧6<((7:Nat):Int)from by decide),f_ (nf h0),f_ (nf h0)] ?_
  rcases aq (C.off 6)with h3|h3
  ·have HE:=L3 h3
   exact(hX.to HE.symm).e [t_ h3]
  ·obtain⟨h4,h5,L6,K6⟩:=K3 h3
   refine hX.go [f_ h3,c_ [1] (show S 209 [.sl 0 C.nd,I a1] [some (.row false 3 C.nd 1 (fun i=>[I (C.D i)]))] (.af [I (((rY (fun i=>C.D i) a1 C.nd:Nat):Int)),B (hasB (fun i=>C.D i) a1 C.nd)]) []from zi h4 h5)] ?_
   rcases aq (hasB (fun i=>C.D i) a1 C.nd)with h6|h6
   ·have HE:=L6 h6
    exact(hX.to HE.symm).e [t_ h6]
   ·have k:=K6 h6
    exact hX.h 30 [f_ h6,i_,i_] [.ae 0, .ae 1, .ae 1002, .ae 3] k
 ·have HE:=L0 h0
  exact(hX.to HE.symm).e [n_ 6 (t_ (nt h0)),t_ rt]
noncomputable def dD (C:Cl) (x1:Int) (x2:Int) (b3:Bool) (b4:Bool) (b5:Bool) (b6:Bool) (b7:Bool) (b8:Bool) (b9:Bool):SC:=
 ⟨[⟨97,bJ 49 [(1,I x1),(2, .ptr 2 0),(6,I x2)],[.code (aa Tryz.f97 [1,1,1,0,1,0,0]), .inLoop (aa Tryz.f97 [1,1,1,0,1,0,0]), .inBlock 0, .code (aa Tryz.f97 [1,1,1,1])],{}⟩],[some (.row false 109 C.nr 8 (fun i=>[I ((C.R i).kind),I ((C.R i).aY),I ((C.R i).day),I ((C.R i).k),I ((C.R i).off),I ((C.R i).sh),I ((C.R i).fr),I ((C.R i).to)])),some (.row false 3 C.nd 1 (fun i=>[I (C.D i)])),some (.box true [B b3,B b4,B b5,B b6,B b7,B b8,B b9, .sl 0 C.nr, .sl 1 C.nd])]⟩
noncomputable def qg (C:Cl) (x1:Int) (x2:Int) (b3:Bool) (b4:Bool) (b5:Bool) (b6:Bool) (b7:Bool) (b8:Bool) (b9:Bool):SC:=
 ⟨[⟨97,bJ 49 [(1,I x1),(2, .ptr 2 0),(7,I x2)],[.code (aa Tryz.f97 [1,1,1,1,0,1,0,0]), .inLoop (aa Tryz.f97 [1,1,1,1,0,1,0,0]), .inBlock 2, .code (aa Tryz.f97 [1,1,1,1,1])],{}⟩],[some (.row false 109 C.nr 8 (fun i=>[I ((C.R i).kind),I ((C.R i).aY),I ((C.R i).day),I ((C.R i).k),I ((C.R i).off),I ((C.R i).sh),I ((C.R i).fr),I ((C.R i).to)])),some (.row false 3 C.nd 1 (fun i=>[I (C.D i)])),some (.box true [B b3,B b4,B b5,B b6,B b7,B b8,B b9, .sl 0 C.nr, .sl 1 C.nd])]⟩
theorem xO {X:Cx} {C:Cl} {a1:Int} {res:SV} (hX:Fi X 97 (aB C) (res) []) (H:((ai a1)=false→(B false:SV)=res)∧((ai a1)=true→(0:Int)≤a1∧bI a1=0∧((C.off 0)=true→(B false:SV)=res)∧((C.off 0)=false→Ok X (dD C a1 0 (C.off 0) (C.off 1) (C.off 2) (C.off 3) (C.off 4) (C.off 5) (C.off 6))))):
  Ok X (entry Tryz.prog 97 [.agg [B (C.off 0),B (C.off 1),B (C.off 2),B (C.off 3),B (C.off 4),B (C.off 5),B (C.off 6), .sl 0 C.nr, .sl 1 C.nd],I a1] (aB C)):=by
 obtain⟨L0,K0⟩:=H
 refine hX.go [c_ [] (dk a1)] ?_
 rcases aq (ai a1)with h0|h0
 ·obtain⟨h1,h2,L3,K3⟩:=K0 h0
  refine hX.go [f_ (nf h0),f_ (nf h0),c_ [] (show S 128 [I a1] [] (I 0) []from pz h1 h2),f_ (nf h0),f_ (nf h0),q_ (show(0:Int)≤0∧0<((7:Nat):Int)from by decide),f_ (nf h0),f_ (nf h0)] ?_
  rcases aq (C.off 0)with h3|h3
  ·have HE:=L3 h3
   exact(hX.to HE.symm).e [t_ h3]
  ·have k:=K3 h3
   exact hX.h 9 [f_ h3] (aA 3) k
 ·have HE:=L0 h0
  exact(hX.to HE.symm).e [n_ 6 (t_ (nt h0)),t_ rt]
theorem xL {X:Cx} {C:Cl} {x1 x2:Int} {b3 b4 b5 b6 b7 b8 b9:Bool} {res:SV} (hX:Fi X 97 (aB C) (res) []) (H:(x2<((C.nd:Nat):Int)→((0:Int)≤x2∧x2<((C.nd:Nat):Int))∧((C.D x2.toNat)=x1→(B false:SV)=res)∧((C.D x2.toNat)≠x1→Ir (x2+1)∧Ok X (dD C x1 (x2+1) b3 b4 b5 b6 b7 b8 b9)))∧(¬x2<((C.nd:Nat):Int)→Ok X (qg C x1 0 b3 b4 b5 b6 b7 b8 b9))):
  Ok X (dD C x1 x2 b3 b4 b5 b6 b7 b8 b9):=by
 obtain⟨L0,K0⟩:=H
 by_cases h0:x2<((C.nd:Nat):Int)
 ·obtain⟨h1,L2,K2⟩:=L0 h0
  refine hX.go [t_ (dt h0),q_ h1,q_ (show C.nd=C.nd from rfl),q_ h1] ?_
  by_cases h2:(C.D x2.toNat)=x1
  ·have HE:=L2 h2
   exact(hX.to HE.symm).e [t_ (beq_iff_eq.2 h2)]
  ·obtain⟨h3,k⟩:=K2 h2
   exact hX.h 9 [f_ (beq_eq_false_iff_ne.2 h2),q_ h3] (aA 3) k
 ·have k:=K0 h0
  exact hX.h 18 [f_ (df h0)] (aA 3) k
theorem xK {X:Cx} {C:Cl} {x1 x2:Int} {b3 b4 b5 b6 b7 b8 b9:Bool} {res:SV} (hX:Fi X 97 (aB C) (res) []) (H:(x2<((C.nr:Nat):Int)→((0:Int)≤x2∧x2<((C.nr:Nat):Int))∧cQ (C.R x2.toNat)=true∧((tF (C.R x2.toNat) x1)=true→(B false:SV)=res)∧((tF (C.R x2.toNat) x1)=false→Ir (x2+1)∧Ok X (qg C x1 (x2+1) b3 b4 b5 b6 b7 b8 b9)))∧(¬x2<((C.nr:Nat):Int)→(B true:SV)=res)):
  Ok X (qg C x1 x2 b3 b4 b5 b6 b7 b8 b9):=by
 obtain⟨L0,K0⟩:=H
 by_cases h0:x2<((C.nr:Nat):Int)
 ·obtain⟨h1,h2,L3,K3⟩:=L0 h0
  refine hX.go [t_ (dt h0),q_ h1,q_ (show C.nr=C.nr from rfl),q_ h1,c_ [] (show S 129 [.agg [I ((C.R x2.toNat).kind),I ((C.R x2.toNat).aY),I ((C.R x2.toNat).day),I ((C.R x2.toNat).k),I ((C.R x2.toNat).off),I ((C.R x2.toNat).sh),I ((C.R x2.toNat).fr),I ((C.R x2.toNat).to)],I x1] [] (B (tF (C.R x2.toNat) x1)) []from J3 h2)] ?_
  rcases aq (tF (C.R x2.toNat) x1)with h3|h3
  ·have HE:=L3 h3
   exact(hX.to HE.symm).e [t_ h3]
  ·obtain⟨h4,k⟩:=K3 h3
   exact hX.h 9 [f_ h3,q_ h4] (aA 3) k
 ·have HE:=K0 h0
  exact(hX.to HE.symm).e [f_ (df h0)]
theorem Dm {X:Cx} {C:Cl} {a1:Int} {res:SV} (hX:Fi X 97 (aB C) (res) []) (H:((ai a1)=false→(B false:SV)=res)∧((ai a1)=true→(0:Int)≤a1∧bI a1=1∧((C.off 1)=true→(B false:SV)=res)∧((C.off 1)=false→Ok X (dD C a1 0 (C.off 0) (C.off 1) (C.off 2) (C.off 3) (C.off 4) (C.off 5) (C.off 6))))):
  Ok X (entry Tryz.prog 97 [.agg [B (C.off 0),B (C.off 1),B (C.off 2),B (C.off 3),B (C.off 4),B (C.off 5),B (C.off 6), .sl 0 C.nr, .sl 1 C.nd],I a1] (aB C)):=by
 obtain⟨L0,K0⟩:=H
 refine hX.go [c_ [] (dk a1)] ?_
 rcases aq (ai a1)with h0|h0
 ·obtain⟨h1,h2,L3,K3⟩:=K0 h0
  refine hX.go [f_ (nf h0),f_ (nf h0),c_ [] (show S 128 [I a1] [] (I 1) []from pz h1 h2),f_ (nf h0),f_ (nf h0),q_ (show(0:Int)≤1∧1<((7:Nat):Int)from by decide),f_ (nf h0),f_ (nf h0)] ?_
  rcases aq (C.off 1)with h3|h3
  ·have HE:=L3 h3
   exact(hX.to HE.symm).e [t_ h3]
  ·have k:=K3 h3
   exact hX.h 9 [f_ h3] (aA 3) k
 ·have HE:=L0 h0
  exact(hX.to HE.symm).e [n_ 6 (t_ (nt h0)),t_ rt]
theorem Dl {X:Cx} {C:Cl} {a1:Int} {res:SV} (hX:Fi X 97 (aB C) (res) []) (H:((ai a1)=false→(B false:SV)=res)∧((ai a1)=true→(0:Int)≤a1∧bI a1=2∧((C.off 2)=true→(B false:SV)=res)∧((C.off 2)=false→Ok X (dD C a1 0 (C.off 0) (C.off 1) (C.off 2) (C.off 3) (C.off 4) (C.off 5) (C.off 6))))):
  Ok X (entry Tryz.prog 97 [.agg [B (C.off 0),B (C.off 1),B (C.off 2),B (C.off 3),B (C.off 4),B (C.off 5),B (C.off 6), .sl 0 C.nr, .sl 1 C.nd],I a1] (aB C)):=by
 obtain⟨L0,K0⟩:=H
 refine hX.go [c_ [] (dk a1)] ?_
 rcases aq (ai a1)with h0|h0
 ·obtain⟨h1,h2,L3,K3⟩:=K0 h0
  refine hX.go [f_ (nf h0),f_ (nf h0),c_ [] (show S 128 [I a1] [] (I 2) []from pz h1 h2),f_ (nf h0),f_ (nf h0),q_ (show(0:Int)≤2∧2<((7:Nat):Int)from by decide),f_ (nf h0),f_ (nf h0)] ?_
  rcases aq (C.off 2)with h3|h3
  ·have HE:=L3 h3
   exact(hX.to HE.symm).e [t_ h3]
  ·have k:=K3 h3
   exact hX.h 9 [f_ h3] (aA 3) k
 ·have HE:=L0 h0
  exact(hX.to HE.symm).e [n_ 6 (t_ (nt h0)),t_ rt]
theorem Dk {X:Cx} {C:Cl} {a1:Int} {res:SV} (hX:Fi X 97 (aB C) (res) []) (H:((ai a1)=false→(B false:SV)=res)∧((ai a1)=true→(0:Int)≤a1∧bI a1=3∧((C.off 3)=true→(B false:SV)=res)∧((C.off 3)=false→Ok X (dD C a1 0 (C.off 0) (C.off 1) (C.off 2) (C.off 3) (C.off 4) (C.off 5) (C.off 6))))):
  Ok X (entry Tryz.prog 97 [.agg [B (C.off 0),B (C.off 1),B (C.off 2),B (C.off 3),B (C.off 4),B (C.off 5),B (C.off 6), .sl 0 C.nr, .sl 1 C.nd],I a1] (aB C)):=by
 obtain⟨L0,K0⟩:=H
 refine hX.go [c_ [] (dk a1)] ?_
 rcases aq (ai a1)with h0|h0
 ·obtain⟨h1,h2,L3,K3⟩:=K0 h0
  refine hX.go [f_ (nf h0),f_ (nf h0),c_ [] (show S 128 [I a1] [] (I 3) []from pz h1 h2),f_ (nf h0),f_ (nf h0),q_ (show(0:Int)≤3∧3<((7:Nat):Int)from by decide),f_ (nf h0),f_ (nf h0)] ?_
  rcases aq (C.off 3)with h3|h3
  ·have HE:=L3 h3
   exact(hX.to HE.symm).e [t_ h3]
  ·have k:=K3 h3
   exact hX.h 9 [f_ h3] (aA 3) k
 ·have HE:=L0 h0
  exact(hX.to HE.symm).e [n_ 6 (t_ (nt h0)),t_ rt]
theorem Dj {X:Cx} {C:Cl} {a1:Int} {res:SV} (hX:Fi X 97 (aB C) (res) []) (H:((ai a1)=false→(B false:SV)=res)∧((ai a1)=true→(0:Int)≤a1∧bI a1=4∧((C.off 4)=true→(B false:SV)=res)∧((C.off 4)=false→Ok X (dD C a1 0 (C.off 0) (C.off 1) (C.off 2) (C.off 3) (C.off 4) (C.off 5) (C.off 6))))):
  Ok X (entry Tryz.prog 97 [.agg [B (C.off 0),B (C.off 1),B (C.off 2),B (C.off 3),B (C.off 4),B (C.off 5),B (C.off 6), .sl 0 C.nr, .sl 1 C.nd],I a1] (aB C)):=by
 obtain⟨L0,K0⟩:=H
 refine hX.go [c_ [] (dk a1)] ?_
 rcases aq (ai a1)with h0|h0
 ·obtain⟨h1,h2,L3,K3⟩:=K0 h0
  refine hX.go [f_ (nf h0),f_ (nf h0),c_ [] (show S 128 [I a1] [] (I 4) []from pz h1 h2),f_ (nf h0),f_ (nf h0),q_ (show(0:Int)≤4∧4<((7:Nat):Int)from by decide),f_ (nf h0),f_ (nf h0)] ?_
  rcases aq (C.off 4)with h3|h3
  ·have HE:=L3 h3
   exact(hX.to HE.symm).e [t_ h3]
  ·have k:=K3 h3
   exact hX.h 9 [f_ h3] (aA 3) k
 ·have HE:=L0 h0
  exact(hX.to HE.symm).e [n_ 6 (t_ (nt h0)),t_ rt]
theorem Di {X:Cx} {C:Cl} {a1:Int} {res:SV} (hX:Fi X 97 (aB C) (res) []) (H:((ai a1)=false→(B false:SV)=res)∧((ai a1)=true→(0:Int)≤a1∧bI a1=5∧((C.off 5)=true→(B false:SV)=res)∧((C.off 5)=false→Ok X (dD C a1 0 (C.off 0) (C.off 1) (C.off 2) (C.off 3) (C.off 4) (C.off 5) (C.off 6))))):
  Ok X (entry Tryz.prog 97 [.agg [B (C.off 0),B (C.off 1),B (C.off 2),B (C.off 3),B (C.off 4),B (C.off 5),B (C.off 6), .sl 0 C.nr, .sl 1 C.nd],I a1] (aB C)):=by
 obtain⟨L0,K0⟩:=H
 refine hX.go [c_ [] (dk a1)] ?_
 rcases aq (ai a1)with h0|h0
 ·obtain⟨h1,h2,L3,K3⟩:=K0 h0
  refine hX.go [f_ (nf h0),f_ (nf h0),c_ [] (show S 128 [I a1] [] (I 5) []from pz h1 h2),f_ (nf h0),f_ (nf h0),q_ (show(0:Int)≤5∧5<((7:Nat):Int)from by decide),f_ (nf h0),f_ (nf h0)] ?_
  rcases aq (C.off 5)with h3|h3
  ·have HE:=L3 h3
   exact(hX.to HE.symm).e [t_ h3]
  ·have k:=K3 h3
   exact hX.h 9 [f_ h3] (aA 3) k
 ·have HE:=L0 h0
  exact(hX.to HE.symm).e [n_ 6 (t_ (nt h0)),t_ rt]
theorem Dh {X:Cx} {C:Cl} {a1:Int} {res:SV} (hX:Fi X 97 (aB C) (res) []) (H:((ai a1)=false→(B false:SV)=res)∧((ai a1)=true→(0:Int)≤a1∧bI a1=6∧((C.off 6)=true→(B false:SV)=res)∧((C.off 6)=false→Ok X (dD C a1 0 (C.off 0) (C.off 1) (C.off 2) (C.off 3) (C.off 4) (C.off 5) (C.off 6))))):
  Ok X (entry Tryz.prog 97 [.agg [B (C.off 0),B (C.off 1),B (C.off 2),B (C.off 3),B (C.off 4),B (C.off 5),B (C.off 6), .sl 0 C.nr, .sl 1 C.nd],I a1] (aB C)):=by
 obtain⟨L0,K0⟩:=H
 refine hX.go [c_ [] (dk a1)] ?_
 rcases aq (ai a1)with h0|h0
 ·obtain⟨h1,h2,L3,K3⟩:=K0 h0
  refine hX.go [f_ (nf h0),f_ (nf h0),c_ [] (show S 128 [I a1] [] (I 6) []from pz h1 h2),f_ (nf h0),f_ (nf h0),q_ (show(0:Int)≤6∧6<((7:Nat):Int)from by decide),f_ (nf h0),f_ (nf h0)] ?_
  rcases aq (C.off 6)with h3|h3
  ·have HE:=L3 h3
   exact(hX.to HE.symm).e [t_ h3]
  ·have k:=K3 h3
   exact hX.h 9 [f_ h3] (aA 3) k
 ·have HE:=L0 h0
  exact(hX.to HE.symm).e [n_ 6 (t_ (nt h0)),t_ rt]
theorem uB {C:Cl} {n:Int} {o h a:Bool} (hd:ai n=true) (ho:C.off (bI n).toNat=o) (hh:hasB C.D n C.nd=h) (ha:vo C.R n C.nr=a):gK C n=(!o&&(!h&& !a)):=by
 grind [gK]
theorem ux {X:Cx} {C:Cl} {n:Int} {res:SV} (hX:Fi X 166 (aB C) res []) (hC: ∀ i,i<C.nr→cQ (C.R i)=true) (hn:C.nr≤10000) (hr:B (!(vo C.R n C.nr))=res):
  ∀ (f i:Nat),i+f=C.nr→(∀ j,j<i→tF (C.R j) n=false)→Ok X (dJ C ((C.nr:Nat):Int) (i:Int) n)
 |0,i,hi,hj=>by
  grind [AI,yM]
 |f+1,i,hi,hj=>by
  refine yM hX ⟨fun _=>⟨by omega, ?_,fun c=> ?_,fun c=>⟨aT (by omega),ux hX hC hn hr f (i+1) (by omega) (fun j h=> ?_)⟩⟩,fun c=>absurd (show(i:Int)<((C.nr:Nat):Int)by omega) c⟩
  ·simp_all
  ·rw[Int.toNat_natCast]at c
   rw[←hr,AH c (by omega),show decide ((i:Int)≥0)=true from decide_eq_true (by omega)]
  grind
theorem Kv {C:Cl} {n:Int} (hC:bU C):S 166 [qY C,I n] (aB C) (B (gK C n)) []:=by
 refine ab.st fun X hX=> ?_
 have hno:ai n=false→(B false:SV)=B (gK C n):=fun c=>by unfold gK;rw[c];rfl
 have hoff: ∀ k:Nat,ai n=true→bI n=(k:Int)→C.off k=true→(B false:SV)=B (gK C n):=fun k c w o=>by
  rw[uB c (o:=true) (by rw[w];exact o) rfl rfl];rfl
 have hhas: ∀ k:Nat,ai n=true→bI n=(k:Int)→C.off k=false→hasB C.D n C.nd=true→(B false:SV)=B (gK C n):=fun k c w o h=>by
  rw[uB c (o:=false) (by rw[w];exact o) h rfl];rfl
 have hgo: ∀ k:Nat,ai n=true→bI n=(k:Int)→C.off k=false→hasB C.D n C.nd=false→Ok X (dJ C ((C.nr:Nat):Int) 0 n):=fun k c w o h=>by
  have hn:=hC.nr
  rw[uB c (o:=false) (by rw[w];exact o) h rfl]at hX
  exact ux hX hC.rules (by omega) rfl C.nr 0 (by omega) (fun j hj=>absurd hj (Nat.not_lt_zero _))
 have hnd:=hC.nd
 have hw:=qF n
 cases hd:ai n
 ·grind [yN]
 have h0:=aP.1 hd
 rcases(show bI n=0∨bI n=1∨bI n=2∨bI n=3∨bI n=4∨bI n=5∨bI n=6 by omega)with w|w|w|w|w|w|w
 ·exact yN hX ⟨fun c=>hno c,fun c=>⟨by omega,w,fun o=>hoff 0 c w o,fun o=>⟨by omega,hC.xF,fun h=>hhas 0 c w o h,fun h=>hgo 0 c w o h⟩⟩⟩
 ·exact ES hX ⟨fun c=>hno c,fun c=>⟨by omega,w,fun o=>hoff 1 c w o,fun o=>⟨by omega,hC.xF,fun h=>hhas 1 c w o h,fun h=>hgo 1 c w o h⟩⟩⟩
 ·exact ER hX ⟨fun c=>hno c,fun c=>⟨by omega,w,fun o=>hoff 2 c w o,fun o=>⟨by omega,hC.xF,fun h=>hhas 2 c w o h,fun h=>hgo 2 c w o h⟩⟩⟩
 ·exact EP hX ⟨fun c=>hno c,fun c=>⟨by omega,w,fun o=>hoff 3 c w o,fun o=>⟨by omega,hC.xF,fun h=>hhas 3 c w o h,fun h=>hgo 3 c w o h⟩⟩⟩
 ·exact EO hX ⟨fun c=>hno c,fun c=>⟨by omega,w,fun o=>hoff 4 c w o,fun o=>⟨by omega,hC.xF,fun h=>hhas 4 c w o h,fun h=>hgo 4 c w o h⟩⟩⟩
 ·exact EN hX ⟨fun c=>hno c,fun c=>⟨by omega,w,fun o=>hoff 5 c w o,fun o=>⟨by omega,hC.xF,fun h=>hhas 5 c w o h,fun h=>hgo 5 c w o h⟩⟩⟩
 ·exact EM hX ⟨fun c=>hno c,fun c=>⟨by omega,w,fun o=>hoff 6 c w o,fun o=>⟨by omega,hC.xF,fun h=>hhas 6 c w o h,fun h=>hgo 6 c w o h⟩⟩⟩
theorem xM {X:Cx} {C:Cl} {n:Int} {res:SV} {b3 b4 b5 b6 b7 b8 b9:Bool} (hX:Fi X 97 (aB C) res []) (hC: ∀ i,i<C.nr→cQ (C.R i)=true) (hn:C.nr≤10000) (hr:B (!(vo C.R n C.nr))=res):
  ∀ (f i:Nat),i+f=C.nr→(∀ j,j<i→tF (C.R j) n=false)→Ok X (qg C n (i:Int) b3 b4 b5 b6 b7 b8 b9)
 |0,i,hi,hj=>by
  grind [AI,xK]
 |f+1,i,hi,hj=>by
  refine xK hX ⟨fun _=>⟨by omega, ?_,fun c=> ?_,fun c=>⟨aT (by omega),xM hX hC hn hr f (i+1) (by omega) (fun j h=> ?_)⟩⟩,fun c=>absurd (show(i:Int)<((C.nr:Nat):Int)by omega) c⟩
  all_goals grind [AH]
theorem xN {X:Cx} {C:Cl} {n:Int} {res:SV} {b3 b4 b5 b6 b7 b8 b9:Bool} (hX:Fi X 97 (aB C) res []) (hC:bU C) (h0:hasB C.D n C.nd=true→B false=res) (h1:hasB C.D n C.nd=false→B (!(vo C.R n C.nr))=res):
  ∀ (f i:Nat),i+f=C.nd→(∀ j,j<i→C.D j≠n)→Ok X (dD C n (i:Int) b3 b4 b5 b6 b7 b8 b9)
 |0,i,hi,hj=>by
  have hn:=hC.nr
  refine xL hX ⟨fun c=>absurd c (by omega),fun _=> ?_⟩
  exact xM hX hC.rules (by omega) (h1 (su (fun j h=>hj j (by omega)))) C.nr 0 (by omega) (fun j hj=>absurd hj (Nat.not_lt_zero _))
 |f+1,i,hi,hj=>by
  have hn:=hC.nd
  refine xL hX ⟨fun _=>⟨by omega,fun c=> ?_,fun c=>⟨aT (by omega),xN hX hC h0 h1 f (i+1) (by omega) (fun j h=> ?_)⟩⟩,fun c=>absurd (show(i:Int)<((C.nd:Nat):Int)by omega) c⟩
  ·rw[Int.toNat_natCast]at c
   exact h0 (mX.2 ⟨i,by omega,c⟩)
  grind
theorem J0 {C:Cl} {n:Int} (hC:bU C):S 97 [qY C,I n] (aB C) (B (gK C n)) []:=by
 refine ab.st fun X hX=> ?_
 have hno:ai n=false→(B false:SV)=B (gK C n):=fun c=>by unfold gK;rw[c];rfl
 have hoff: ∀ k:Nat,ai n=true→bI n=(k:Int)→C.off k=true→(B false:SV)=B (gK C n):=fun k c w o=>by
  rw[uB c (o:=true) (by rw[w];exact o) rfl rfl];rfl
 have hgo: ∀ k:Nat,ai n=true→bI n=(k:Int)→C.off k=false→ ∀ b3 b4 b5 b6 b7 b8 b9,Ok X (dD C n 0 b3 b4 b5 b6 b7 b8 b9):=fun k c w o b3 b4 b5 b6 b7 b8 b9=>by
  rw[uB c (o:=false) (by rw[w];exact o) rfl rfl]at hX
  refine xN hX hC (fun h=>by rw[h];rfl) (fun h=>by rw[h];rfl) C.nd 0 (by omega) (fun j hj=>absurd hj (Nat.not_lt_zero _))
 have hw:=qF n
 cases hd:ai n
 ·grind [xO]
 have h0:=aP.1 hd
 grind [xO,Dm,Dl,Dk,Dj,Di,Dh]
noncomputable def cO (C:Cl) (x1:Int) (b2:Bool) (b3:Bool) (b4:Bool) (b5:Bool) (b6:Bool) (b7:Bool) (b8:Bool):SC:=
 ⟨[⟨29,bJ 83 [(1, .ptr 2 0),(5,I x1)],[.code (aa Tryz.f29 [1,1,1,1,0,1,0,0]), .inLoop (aa Tryz.f29 [1,1,1,1,0,1,0,0]), .inBlock 2, .code (aa Tryz.f29 [1,1,1,1,1])],{}⟩],[some (.row false 109 C.nr 8 (fun i=>[I ((C.R i).kind),I ((C.R i).aY),I ((C.R i).day),I ((C.R i).k),I ((C.R i).off),I ((C.R i).sh),I ((C.R i).fr),I ((C.R i).to)])),some (.row false 3 C.nd 1 (fun i=>[I (C.D i)])),some (.box true [B b2,B b3,B b4,B b5,B b6,B b7,B b8, .sl 0 C.nr, .sl 1 C.nd])]⟩
noncomputable def iL (C:Cl) (x1:Int) (b2:Bool) (b3:Bool) (b4:Bool) (b5:Bool) (b6:Bool) (b7:Bool) (b8:Bool):SC:=
 ⟨[⟨29,bJ 83 [(1, .ptr 2 0),(7,I x1)],[.code (aa Tryz.f29 [1,1,1,1,1,0,1,0,0]), .inLoop (aa Tryz.f29 [1,1,1,1,1,0,1,0,0]), .inBlock 4, .code (aa Tryz.f29 [1,1,1,1,1,1])],{}⟩],[some (.row false 109 C.nr 8 (fun i=>[I ((C.R i).kind),I ((C.R i).aY),I ((C.R i).day),I ((C.R i).k),I ((C.R i).off),I ((C.R i).sh),I ((C.R i).fr),I ((C.R i).to)])),some (.row false 3 C.nd 1 (fun i=>[I (C.D i)])),some (.box true [B b2,B b3,B b4,B b5,B b6,B b7,B b8, .sl 0 C.nr, .sl 1 C.nd])]⟩
theorem Ch {X:Cx} {C:Cl} {res:SV} (hX:Fi X 29 (aB C) (res) []) (H:((C.off 0)=false→(((C.nr:Nat):Int)>100→(B false:SV)=res)∧(¬((C.nr:Nat):Int)>100→(((C.nd:Nat):Int)>1000→(B false:SV)=res)∧(¬((C.nd:Nat):Int)>1000→Ok X (cO C 0 (C.off 0) (C.off 1) (C.off 2) (C.off 3) (C.off 4) (C.off 5) (C.off 6)))))∧((C.off 0)=true→((C.off 1)=false→(((C.nr:Nat):Int)>100→(B false:SV)=res)∧(¬((C.nr:Nat):Int)>100→(((C.nd:Nat):Int)>1000→(B false:SV)=res)∧(¬((C.nd:Nat):Int)>1000→Ok X (cO C 0 (C.off 0) (C.off 1) (C.off 2) (C.off 3) (C.off 4) (C.off 5) (C.off 6)))))∧((C.off 1)=true→((C.off 2)=false→(((C.nr:Nat):Int)>100→(B false:SV)=res)∧(¬((C.nr:Nat):Int)>100→(((C.nd:Nat):Int)>1000→(B false:SV)=res)∧(¬((C.nd:Nat):Int)>1000→Ok X (cO C 0 (C.off 0) (C.off 1) (C.off 2) (C.off 3) (C.off 4) (C.off 5) (C.off 6)))))∧((C.off 2)=true→((C.off 3)=false→(((C.nr:Nat):Int)>100→(B false:SV)=res)∧(¬((C.nr:Nat):Int)>100→(((C.nd:Nat):Int)>1000→(B false:SV)=res)∧(¬((C.nd:Nat):Int)>1000→Ok X (cO C 0 (C.off 0) (C.off 1) (C.off 2) (C.off 3) (C.off 4) (C.off 5) (C.off 6)))))∧((C.off 3)=true→((C.off 4)=false→(((C.nr:Nat):Int)>100→(B false:SV)=res)∧(¬((C.nr:Nat):Int)>100→(((C.nd:Nat):Int)>1000→(B false:SV)=res)∧(¬((C.nd:Nat):Int)>1000→Ok X (cO C 0 (C.off 0) (C.off 1) (C.off 2) (C.off 3) (C.off 4) (C.off 5) (C.off 6)))))∧((C.off 4)=true→((C.off 5)=false→(((C.nr:Nat):Int)>100→(B false:SV)=res)∧(¬((C.nr:Nat):Int)>100→(((C.nd:Nat):Int)>1000→(B false:SV)=res)∧(¬((C.nd:Nat):Int)>1000→Ok X (cO C 0 (C.off 0) (C.off 1) (C.off 2) (C.off 3) (C.off 4) (C.off 5) (C.off 6)))))∧((C.off 5)=true→((C.off 6)=true→(B false:SV)=res)∧((C.off 6)=false→(((C.nr:Nat):Int)>100→(B false:SV)=res)∧(¬((C.nr:Nat):Int)>100→(((C.nd:Nat):Int)>1000→(B false:SV)=res)∧(¬((C.nd:Nat):Int)>1000→Ok X (cO C 0 (C.off 0) (C.off 1) (C.off 2) (C.off 3) (C.off 4) (C.off 5) (C.off 6)))))))))))):
  Ok X (entry Tryz.prog 29 [.agg [B (C.off 0),B (C.off 1),B (C.off 2),B (C.off 3),B (C.off 4),B (C.off 5),B (C.off 6), .sl 0 C.nr, .sl 1 C.nd]] (aB C)):=by
 obtain⟨L0,K0⟩:=H
 refine hX.go [t_ rt,n_ 3 (f_ rf),q_ (show(0:Int)≤0∧0<((7:Nat):Int)from by decide),n_ 3 (f_ rf),q_ (show Ir 1 from by decide),t_ rt] ?_
 rcases aq (C.off 0)with h0|h0
 ·obtain⟨L1,K1⟩:=K0 h0
  refine hX.go [n_ 3 (f_ (nf h0)),q_ (show(0:Int)≤1∧1<((7:Nat):Int)from by decide),n_ 3 (f_ (nf h0)),q_ (show Ir 2 from by decide),t_ rt] ?_
  rcases aq (C.off 1)with h1|h1
  ·obtain⟨L2,K2⟩:=K1 h1
   refine hX.go [n_ 3 (f_ (nf h1)),q_ (show(0:Int)≤2∧2<((7:Nat):Int)from by decide),n_ 3 (f_ (nf h1)),q_ (show Ir 3 from by decide),t_ rt] ?_
   rcases aq (C.off 2)with h2|h2
   ·obtain⟨L3,K3⟩:=K2 h2
    refine hX.go [n_ 3 (f_ (nf h2)),q_ (show(0:Int)≤3∧3<((7:Nat):Int)from by decide),n_ 3 (f_ (nf h2)),q_ (show Ir 4 from by decide),t_ rt] ?_
    rcases aq (C.off 3)with h3|h3
    ·obtain⟨L4,K4⟩:=K3 h3
     refine hX.go [n_ 3 (f_ (nf h3)),q_ (show(0:Int)≤4∧4<((7:Nat):Int)from by decide),n_ 3 (f_ (nf h3)),q_ (show Ir 5 from by decide),t_ rt] ?_
     rcases aq (C.off 4)with h4|h4
     ·obtain⟨L5,K5⟩:=K4 h4
      refine hX.go [n_ 3 (f_ (nf h4)),q_ (show(0:Int)≤5∧5<((7:Nat):Int)from by decide),n_ 3 (f_ (nf h4)),q_ (show Ir 6 from by decide),t_ rt] ?_
      rcases aq (C.off 5)with h5|h5
      ·obtain⟨L6,K6⟩:=K5 h5
       refine hX.go [n_ 3 (f_ (nf h5)),q_ (show(0:Int)≤6∧6<((7:Nat):Int)from by decide),n_ 3 (f_ (nf h5)),q_ (show Ir 7 from by decide),f_ rf] ?_
       rcases aq (C.off 6)with h6|h6
       ·have HE:=L6 h6
        exact(hX.to HE.symm).e [n_ 5 (t_ (Go.Sx.Bo (nf h6))),n_ 6 (t_ rt)]
       ·obtain⟨L7,K7⟩:=K6 h6
        refine hX.go [n_ 5 (f_ (Go.Sx.tu (nt h6)))] ?_
        by_cases h7:((C.nr:Nat):Int)>100
        ·have HE:=L7 h7
         exact(hX.to HE.symm).e [n_ 5 (t_ (dt h7)),t_ rt]
        ·obtain⟨L8,K8⟩:=K7 h7
         refine hX.go [n_ 5 (f_ (df h7))] ?_
         by_cases h8:((C.nd:Nat):Int)>1000
         ·have HE:=L8 h8
          exact(hX.to HE.symm).e [t_ (dt h8)]
         ·have k:=K8 h8
          exact hX.h 9 [f_ (df h8)] (aA 3) k
      ·obtain⟨L6,K6⟩:=L5 h5
       refine hX.go [n_ 6 (t_ (nt h5)),q_ (show Ir 7 from by decide),n_ 6 (f_ rf)] ?_
       by_cases h6:((C.nr:Nat):Int)>100
       ·have HE:=L6 h6
        exact(hX.to HE.symm).e [n_ 5 (t_ (dt h6)),t_ rt]
       ·obtain⟨L7,K7⟩:=K6 h6
        refine hX.go [n_ 5 (f_ (df h6))] ?_
        by_cases h7:((C.nd:Nat):Int)>1000
        ·have HE:=L7 h7
         exact(hX.to HE.symm).e [t_ (dt h7)]
        ·have k:=K7 h7
         exact hX.h 9 [f_ (df h7)] (aA 3) k
     ·obtain⟨L5,K5⟩:=L4 h4
      refine hX.go [n_ 6 (t_ (nt h4)),q_ (show Ir 6 from by decide),n_ 7 (t_ rt),q_ (show Ir 7 from by decide),n_ 6 (f_ rf)] ?_
      by_cases h5:((C.nr:Nat):Int)>100
      ·have HE:=L5 h5
       exact(hX.to HE.symm).e [n_ 5 (t_ (dt h5)),t_ rt]
      ·obtain⟨L6,K6⟩:=K5 h5
       refine hX.go [n_ 5 (f_ (df h5))] ?_
       by_cases h6:((C.nd:Nat):Int)>1000
       ·have HE:=L6 h6
        exact(hX.to HE.symm).e [t_ (dt h6)]
       ·have k:=K6 h6
        exact hX.h 9 [f_ (df h6)] (aA 3) k
    ·obtain⟨L4,K4⟩:=L3 h3
     refine hX.go [n_ 6 (t_ (nt h3)),q_ (show Ir 5 from by decide),n_ 7 (t_ rt),q_ (show Ir 6 from by decide),n_ 7 (t_ rt),q_ (show Ir 7 from by decide),n_ 6 (f_ rf)] ?_
     by_cases h4:((C.nr:Nat):Int)>100
     ·have HE:=L4 h4
      exact(hX.to HE.symm).e [n_ 5 (t_ (dt h4)),t_ rt]
     ·obtain⟨L5,K5⟩:=K4 h4
      refine hX.go [n_ 5 (f_ (df h4))] ?_
      by_cases h5:((C.nd:Nat):Int)>1000
      ·have HE:=L5 h5
       exact(hX.to HE.symm).e [t_ (dt h5)]
      ·have k:=K5 h5
       exact hX.h 9 [f_ (df h5)] (aA 3) k
   ·obtain⟨L3,K3⟩:=L2 h2
    refine hX.go [n_ 6 (t_ (nt h2)),q_ (show Ir 4 from by decide),n_ 7 (t_ rt),q_ (show Ir 5 from by decide),n_ 7 (t_ rt),q_ (show Ir 6 from by decide),n_ 7 (t_ rt),q_ (show Ir 7 from by decide),n_ 6 (f_ rf)] ?_
    by_cases h3:((C.nr:Nat):Int)>100
    ·have HE:=L3 h3
     exact(hX.to HE.symm).e [n_ 5 (t_ (dt h3)),t_ rt]
    ·obtain⟨L4,K4⟩:=K3 h3
     refine hX.go [n_ 5 (f_ (df h3))] ?_
     by_cases h4:((C.nd:Nat):Int)>1000
     ·have HE:=L4 h4
      exact(hX.to HE.symm).e [t_ (dt h4)]
     ·have k:=K4 h4
      exact hX.h 9 [f_ (df h4)] (aA 3) k
  ·obtain⟨L2,K2⟩:=L1 h1
   refine hX.go [n_ 6 (t_ (nt h1)),q_ (show Ir 3 from by decide),n_ 7 (t_ rt),q_ (show Ir 4 from by decide),n_ 7 (t_ rt),q_ (show Ir 5 from by decide),n_ 7 (t_ rt),q_ (show Ir 6 from by decide),n_ 7 (t_ rt),q_ (show Ir 7 from by decide),n_ 6 (f_ rf)] ?_
   by_cases h2:((C.nr:Nat):Int)>100
   ·have HE:=L2 h2
    exact(hX.to HE.symm).e [n_ 5 (t_ (dt h2)),t_ rt]
   ·obtain⟨L3,K3⟩:=K2 h2
    refine hX.go [n_ 5 (f_ (df h2))] ?_
    by_cases h3:((C.nd:Nat):Int)>1000
    ·have HE:=L3 h3
     exact(hX.to HE.symm).e [t_ (dt h3)]
    ·have k:=K3 h3
     exact hX.h 9 [f_ (df h3)] (aA 3) k
 ·obtain⟨L1,K1⟩:=L0 h0
  refine hX.go [n_ 6 (t_ (nt h0)),q_ (show Ir 2 from by decide),n_ 7 (t_ rt),q_ (show Ir 3 from by decide),n_ 7 (t_ rt),q_ (show Ir 4 from by decide),n_ 7 (t_ rt),q_ (show Ir 5 from by decide),n_ 7 (t_ rt),q_ (show Ir 6 from by decide),n_ 7 (t_ rt),q_ (show Ir 7 from by decide),n_ 6 (f_ rf)] ?_
  by_cases h1:((C.nr:Nat):Int)>100
  ·have HE:=L1 h1
   exact(hX.to HE.symm).e [n_ 5 (t_ (dt h1)),t_ rt]
  ·obtain⟨L2,K2⟩:=K1 h1
   refine hX.go [n_ 5 (f_ (df h1))] ?_
   by_cases h2:((C.nd:Nat):Int)>1000
   ·have HE:=L2 h2
    exact(hX.to HE.symm).e [t_ (dt h2)]
   ·have k:=K2 h2
    exact hX.h 9 [f_ (df h2)] (aA 3) k
theorem vF {X:Cx} {C:Cl} {x1:Int} {b2 b3 b4 b5 b6 b7 b8:Bool} {res:SV} (hX:Fi X 29 (aB C) (res) []) (H:(x1<((C.nr:Nat):Int)→((0:Int)≤x1∧x1<((C.nr:Nat):Int))∧((cQ (C.R x1.toNat))=false→(B false:SV)=res)∧((cQ (C.R x1.toNat))=true→Ir (x1+1)∧Ok X (cO C (x1+1) b2 b3 b4 b5 b6 b7 b8)))∧(¬x1<((C.nr:Nat):Int)→Ok X (iL C 0 b2 b3 b4 b5 b6 b7 b8))):
  Ok X (cO C x1 b2 b3 b4 b5 b6 b7 b8):=by
 obtain⟨L0,K0⟩:=H
 by_cases h0:x1<((C.nr:Nat):Int)
 ·obtain⟨h1,L2,K2⟩:=L0 h0
  refine hX.go [t_ (dt h0),q_ h1,q_ (show C.nr=C.nr from rfl),q_ h1,c_ [] (IC (C.R x1.toNat))] ?_
  rcases aq (cQ (C.R x1.toNat))with h2|h2
  ·obtain⟨h3,k⟩:=K2 h2
   exact hX.h 9 [f_ (nf h2),q_ h3] (aA 3) k
  ·have HE:=L2 h2
   exact(hX.to HE.symm).e [t_ (nt h2)]
 ·have k:=K0 h0
  exact hX.h 18 [f_ (df h0)] (aA 3) k
theorem vD {X:Cx} {C:Cl} {x1:Int} {b2 b3 b4 b5 b6 b7 b8:Bool} {res:SV} (hX:Fi X 29 (aB C) (res) []) (H:(x1<((C.nd:Nat):Int)→((0:Int)≤x1∧x1<((C.nd:Nat):Int))∧((ai (C.D x1.toNat))=false→(B false:SV)=res)∧((ai (C.D x1.toNat))=true→(x1>0→Ir (x1-1)∧((0:Int)≤(x1-1)∧(x1-1)<((C.nd:Nat):Int))∧((C.D x1.toNat)≤(C.D ((x1-1).toNat))→(B false:SV)=res)∧(¬(C.D x1.toNat)≤(C.D ((x1-1).toNat))→Ir (x1+1)∧Ok X (iL C (x1+1) b2 b3 b4 b5 b6 b7 b8)))∧(¬x1>0→Ir (x1+1)∧Ok X (iL C (x1+1) b2 b3 b4 b5 b6 b7 b8))))∧(¬x1<((C.nd:Nat):Int)→(B true:SV)=res)):
  Ok X (iL C x1 b2 b3 b4 b5 b6 b7 b8):=by
 obtain⟨L0,K0⟩:=H
 by_cases h0:x1<((C.nd:Nat):Int)
 ·obtain⟨h1,L2,K2⟩:=L0 h0
  refine hX.go [t_ (dt h0),q_ h1,q_ (show C.nd=C.nd from rfl),q_ h1,c_ [] (dk (C.D x1.toNat))] ?_
  rcases aq (ai (C.D x1.toNat))with h2|h2
  ·obtain⟨L3,K3⟩:=K2 h2
   by_cases h3:x1>0
   ·obtain⟨h4,h5,L6,K6⟩:=L3 h3
    refine hX.go [d_ 17,n_ 3 (f_ (nf h2)),n_ 4 (t_ (dt h3)),q_ h1,q_ (show C.nd=C.nd from rfl),t_ (dt h3),q_ h1,n_ 4 (t_ (dt h3)),q_ h4,t_ (dt h3),q_ h5,q_ (show C.nd=C.nd from rfl),t_ (dt h3),q_ h5,t_ (dt h3),f_ (nf h2),t_ (dt h3),f_ (nf h2)] ?_
    by_cases h6:(C.D x1.toNat)≤(C.D ((x1-1).toNat))
    ·have HE:=L6 h6
     exact(hX.to HE.symm).e [t_ (dt h6)]
    ·obtain⟨h7,k⟩:=K6 h6
     exact hX.h 9 [f_ (df h6),q_ h7] (aA 3) k
   ·obtain⟨h4,k⟩:=K3 h3
    exact hX.h 14 [d_ 17,n_ 3 (f_ (nf h2)),n_ 12 (f_ (df h3)),f_ (nf h2),f_ (df h3),f_ (nf h2),f_ rf,q_ h4] (aA 3) k
  ·have HE:=L2 h2
   exact(hX.to HE.symm).e [d_ 17,n_ 5 (t_ (nt h2)),t_ rt]
 ·have HE:=K0 h0
  exact(hX.to HE.symm).e [f_ (df h0)]
theorem qM {X:Cx} {C:Cl} {b3 b4 b5 b6 b7 b8 b9:Bool} (hX:Fi X 29 (aB C) (B (dI C)) []) (ho:wG C=true) (hr:C.nr≤100) (hd:C.nd≤1000) (hR: ∀ i,i<C.nr→cQ (C.R i)=true):
  ∀ (f i:Nat),i+f=C.nd→(∀ j,j<i→ai (C.D j)=true)→(∀ j,j+1<i→C.D j<C.D (j+1))→Ok X (iL C (i:Int) b3 b4 b5 b6 b7 b8 b9)
 |0,i,hi,h1,h2=>by
  refine vD hX ⟨fun c=>absurd c (by omega),fun _=> ?_⟩
  rw[uw.2 ⟨ho,hr,hd,hR,fun j h=>h1 j (by omega),fun j h=>h2 j (by omega)⟩]
 |f+1,i,hi,h1,h2=>by
  have no: ¬bU C→(B false:SV)=B (dI C):=fun c=>by
   grind [dI]
  have ti:((i:Int)).toNat=i:=Int.toNat_natCast i
  refine vD hX ⟨fun _=>⟨by omega,fun c=> ?_,fun c=>⟨fun p=>⟨aT (by omega),by omega,fun q=> ?_,fun q=>⟨aT (by omega), ?_⟩⟩,fun p=>⟨aT (by omega), ?_⟩⟩⟩,fun c=>absurd (show(i:Int)<((C.nd:Nat):Int)by omega) c⟩
  ·rw[ti]at c
   refine no (fun h=> ?_);have:=h.days i (by omega);rw[c]at this;cases this
  ·rw[ti,show((i:Int)-1).toNat=i-1 by omega]at q
   refine no (fun h=> ?_);have:=h.xF (i-1) (by omega);rw[show i-1+1=i by omega]at this;omega
  ·rw[ti,show((i:Int)-1).toNat=i-1 by omega]at q
   rw[ti]at c
   refine qM hX ho hr hd hR f (i+1) (by omega) (fun j h=> ?_) (fun j h=> ?_)
   all_goals grind
  ·rw[ti]at c
   refine qM hX ho hr hd hR f (i+1) (by omega) (fun j h=> ?_) (fun j h=>by omega)
   simp_all
theorem vG {X:Cx} {C:Cl} {b3 b4 b5 b6 b7 b8 b9:Bool} (hX:Fi X 29 (aB C) (B (dI C)) []) (ho:wG C=true) (hr:C.nr≤100) (hd:C.nd≤1000):
  ∀ (f i:Nat),i+f=C.nr→(∀ j,j<i→cQ (C.R j)=true)→Ok X (cO C (i:Int) b3 b4 b5 b6 b7 b8 b9)
 |0,i,hi,h1=>by
  refine vF hX ⟨fun c=>absurd c (by omega),fun _=> ?_⟩
  exact qM hX ho hr hd (fun j h=>h1 j (by omega)) C.nd 0 (by omega) (fun j hj=>absurd hj (Nat.not_lt_zero _)) (fun j hj=>absurd hj (by omega))
 |f+1,i,hi,h1=>by
  have ti:((i:Int)).toNat=i:=Int.toNat_natCast i
  refine vF hX ⟨fun _=>⟨by omega,fun c=> ?_,fun c=>⟨aT (by omega),vG hX ho hr hd f (i+1) (by omega) (fun j h=> ?_)⟩⟩,fun c=>absurd (show(i:Int)<((C.nr:Nat):Int)by omega) c⟩
  ·rw[ti]at c
   cases h:dI C
   ·rfl
   ·have:=(uw.1 h).rules i (by omega);rw[c]at this;cases this
  grind
theorem Im {C:Cl}:S 29 [qY C] (aB C) (B (dI C)) []:=by
 refine ab.st fun X hX=> ?_
 have no: ¬bU C→(B false:SV)=B (dI C):=fun c=>by
  grind [dI]
 have n1:((C.nr:Nat):Int)>100→(B false:SV)=B (dI C):=fun c=>no (fun h=>by have:=h.nr;omega)
 have n2:((C.nd:Nat):Int)>1000→(B false:SV)=B (dI C):=fun c=>no (fun h=>by have:=h.nd;omega)
 have go:wG C=true→ ¬((C.nr:Nat):Int)>100→ ¬((C.nd:Nat):Int)>1000→ ∀ b3 b4 b5 b6 b7 b8 b9,Ok X (cO C 0 b3 b4 b5 b6 b7 b8 b9):=fun h0 h1 h2 b3 b4 b5 b6 b7 b8 b9=>
  vG hX h0 (by omega) (by omega) C.nr 0 (by omega) (fun j hj=>absurd hj (Nat.not_lt_zero _))
 have o0:C.off 0=false→wG C=true:=fun h=>by unfold wG;rw[h];rfl
 have o1:C.off 1=false→wG C=true:=fun h=>by unfold wG;rw[h];simp
 have o2:C.off 2=false→wG C=true:=fun h=>by unfold wG;rw[h];simp
 have o3:C.off 3=false→wG C=true:=fun h=>by unfold wG;rw[h];simp
 have o4:C.off 4=false→wG C=true:=fun h=>by unfold wG;rw[h];simp
 have o5:C.off 5=false→wG C=true:=fun h=>by unfold wG;rw[h];simp
 have o6:C.off 6=false→wG C=true:=fun h=>by unfold wG;rw[h];simp
 refine Ch hX ⟨fun c=>⟨n1,fun p=>⟨n2,fun q=>go (o0 c) p q _ _ _ _ _ _ _⟩⟩,fun c0=>⟨fun c=>⟨n1,fun p=>⟨n2,fun q=>go (o1 c) p q _ _ _ _ _ _ _⟩⟩,fun c1=>⟨fun c=>⟨n1,fun p=>⟨n2,fun q=>go (o2 c) p q _ _ _ _ _ _ _⟩⟩,fun c2=>⟨fun c=>⟨n1,fun p=>⟨n2,fun q=>go (o3 c) p q _ _ _ _ _ _ _⟩⟩,fun c3=>⟨fun c=>⟨n1,fun p=>⟨n2,fun q=>go (o4 c) p q _ _ _ _ _ _ _⟩⟩,fun c4=>⟨fun c=>⟨n1,fun p=>⟨n2,fun q=>go (o5 c) p q _ _ _ _ _ _ _⟩⟩,fun c5=>⟨fun c6=>no (fun h=> ?_),fun c=>⟨n1,fun p=>⟨n2,fun q=>go (o6 c) p q _ _ _ _ _ _ _⟩⟩⟩⟩⟩⟩⟩⟩⟩
 have:=h.op
 grind [wG]
theorem Dn {C:Cl} {res:SV} (H:(((C.nr:Nat):Int)≤12→(B (decide (((C.nd:Nat):Int)≤60)):SV)=res)∧(¬((C.nr:Nat):Int)≤12→(B false:SV)=res)):
  S 28 [.agg [B (C.off 0),B (C.off 1),B (C.off 2),B (C.off 3),B (C.off 4),B (C.off 5),B (C.off 6), .sl 0 C.nr, .sl 1 C.nd]] (aB C) (res) []:=by
 refine ab.st fun X hX=> ?_
 obtain⟨L0,K0⟩:=H
 by_cases h0:((C.nr:Nat):Int)≤12
 ·have HE:=L0 h0
  exact(hX.to HE.symm).e [n_ 5 (t_ (dt h0))]
 ·have HE:=K0 h0
  exact(hX.to HE.symm).e [n_ 5 (f_ (df h0))]
def Ah (C:Cl):Bool:=decide (C.nr≤12∧C.nd≤60)
theorem Io {C:Cl}:S 28 [qY C] (aB C) (B (Ah C)) []:=by
 grind [Ah,Dn]
end Go.Proofs.YtelidogcomffkaaGreatDoor
