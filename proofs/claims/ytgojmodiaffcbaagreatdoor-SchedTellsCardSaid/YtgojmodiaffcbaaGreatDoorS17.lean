/-
Chapter 17's laws: what they lean on.
-/
import Derived.Test.YtgojmodiaffcbaaGreatDoorRs
import Derived.Test.YtgojmodiaffcbaaGreatDoorProg
import Derived.KernelRfl
set_option linter.unusedSectionVars false
set_option linter.unusedSimpArgs false
set_option linter.unusedVariables false
set_option maxRecDepth 100000
namespace Go.Proofs.YtgojmodiaffcbaaGreatDoor
open Go Go.Sx
variable [EnvT]
theorem nil2 {P:Program} {gl:List (Nat×Vw)} {f:FuncId} {args args':List SV} {el1 el2:TypeId} {s1 s2:Nat} {g1 g2:Nat→List SV} {res res':SV} {new:List (Option Vw)}
  (h:SCall P gl f args [some (.row false el1 0 s1 g1),some (.row false el2 0 s2 g2)] res new) (hn:ScHp 0 new)
  (ha: ∀ θ θ':Th,θ 0=⟨none,0,s1⟩→θ 1=⟨none,0,s2⟩→denL θ args=denL θ' args') (hr: ∀ θ θ':Th,(∀ k,θ (k+2)=θ' k)→den θ res=den θ' res'):SCall P gl f args' [] res' new:=by
 intro θ w hh hg cs
 have hz: ∀ a b:Th,Go.Sx.Same 0 a b:=fun a b t ht=>absurd ht (Nat.not_lt_zero _)
 let up:Th→Th:=fun θ t=>if t=0 then⟨none,0,s1⟩else if t=1 then⟨none,0,s2⟩else θ (t-2)
 have u0: ∀ θ,up θ 0=⟨none,0,s1⟩:=fun θ=>if_pos rfl
 have u1: ∀ θ,up θ 1=⟨none,0,s2⟩:=fun θ=>by show(if 1=0 then _ else _)=_;rw[if_neg (by decide),if_pos rfl]
 have u2: ∀ θ k,up θ (k+2)=θ k:=fun θ k=>by show(if k+2=0 then _ else _)=_;rw[if_neg (by omega),if_neg (by omega)];congr 1
 have nilOk: ∀ (θ:Th) (el:TypeId) (s:Nat) (g:Nat→List SV),VwOk θ w.heap.size w ⟨none,0,s⟩ (.row false el 0 s g):=fun θ el s g=>
  ⟨rfl,Nat.le_refl _,⟨.inl rfl,(fun a ha=>by cases ha)⟩,fun i hi=>absurd hi (Nat.not_lt_zero _),(fun a ha=>by cases ha),(fun h=>by cases h)⟩
 have hh2:HpOk (up θ) w.heap.size [some (.row false el1 0 s1 g1),some (.row false el2 0 s2 g2)] w:=by
  refine⟨fun t u hu=> ?_,fun t t' u u' hu hu' hne hown=> ?_⟩
  ·match t,hu with
   |0,hu=>simp only[List.getElem?_cons_zero,Option.some.injEq]at hu;subst hu;rw[u0];exact nilOk _ _ _ _
   |1,hu=>simp only[List.getElem?_cons_succ,List.getElem?_cons_zero,Option.some.injEq]at hu;subst hu;rw[u1];exact nilOk _ _ _ _
   |t+2,hu=>simp at hu
  ·have:u.own=false:=by
    match t,hu with
    |0,hu=>simp only[List.getElem?_cons_zero,Option.some.injEq]at hu;subst hu;rfl
    |1,hu=>simp only[List.getElem?_cons_succ,List.getElem?_cons_zero,Option.some.injEq]at hu;subst hu;rfl
    |t+2,hu=>simp at hu
   rw[this]at hown;cases hown
 obtain⟨e,w',fr',⟨hb,r,he,nw,hk⟩,hc,h3,h4⟩:=h (up θ) w hh2 hg cs
 rw[ha (up θ) θ (u0 θ) (u1 θ)]at hc
 refine⟨e,w',fr',⟨hb,r,he,nw,fun θ' hs' hk'=> ?_⟩,hc,h3,h4⟩
 obtain⟨h5,h6⟩:=hk (up θ') (fun t ht=>by
  match t,ht with
  |0,_=>rw[u0,u0]
  |1,_=>rw[u1,u1]) (fun k hk2=>by
  show up θ' (2+k)=_
  rw[Nat.add_comm,u2,←hk' k hk2]
  show θ' k=θ' (0+k)
  rw[Nat.zero_add])
 rw[hr (up θ') θ' (u2 θ')]at h5
 refine⟨h5,fun t u hu=> ?_,fun t t' u u' hu hu' hne hown hl a a' haa haa'=> ?_⟩
 ·have hu2:new[t]? =some (some u):=hu
  have:=(h6.vw (t+2) u (by simpa using hu2)).sc (hz _ θ') (hn.get hu2)
  rwa [u2]at this
 ·exact h6.ne (t+2) (t'+2) u u' (by simpa using hu) (by simpa using hu') (by omega) hown hl a a' (by rw[u2];exact haa) (by rw[u2];exact haa')
theorem rPartsT {n m:Nat} {g2 g3 g5 g6:Nat→Int} (h:n=m∧ ∀ i,i<n→g2 i=g5 i∧g3 i=g6 i) (hn:n≤10000):S 22 [.sl 0 n, .sl 1 m] [some (.row false 48 n 2 (fun i=>[I (g2 i),I (g3 i)])),some (.row false 48 m 2 (fun i=>[I (g5 i),I (g6 i)]))] (B true) []:=by
 have:=rParts (n:=n) (m:=m) (g2:=g2) (g3:=g3) (g5:=g5) (g6:=g6) hn
 rw[decide_eq_true h]at this
 exact this
theorem refSm_w {n1 m1 p1 k1:Nat} {f1 g1 x1 y1 z1:Nat→Int} {n2 m2 p2 k2:Nat} {f2 g2 x2 y2 z2:Nat→Int} {b:Bool} {e q:Int} {res:SV} (H:(n1=n2∧ ∀ i,i<n1→f1 i=f2 i)∧n1≤100000∧(m1=m2∧ ∀ i,i<m1→g1 i=g2 i)∧m1≤100000∧(k1=k2∧ ∀ i,i<k1→z1 i=z2 i)∧k1≤100000∧(p1=p2∧ ∀ i,i<p1→x1 i=x2 i∧y1 i=y2 i)∧p1≤10000∧((b==b)=true→(e=e→(B (q==q):SV)=res)∧(e≠e→(B false:SV)=res))∧((b==b)=false→(B false:SV)=res)):
  S 13 [.agg [.sl 0 n1, .sl 1 m1, .sl 2 p1,B b,I e,I q, .sl 3 k1], .agg [.sl 4 n2, .sl 5 m2, .sl 6 p2,B b,I e,I q, .sl 7 k2]] [ri n1 f1,ri m1 g1,some (.row false 48 p1 2 (fun i=>[I (x1 i),I (y1 i)])),ri k1 z1,ri n2 f2,ri m2 g2,some (.row false 48 p2 2 (fun i=>[I (x2 i),I (y2 i)])),ri k2 z2] (res) []:=by
 refine SCall.st fun X hX=> ?_
 obtain⟨h0,h1,h2,h3,h4,h5,h6,h7,L8,K8⟩:=H
 refine hX.go [c_ [0,4] (show S 20 [.sl 0 n1, .sl 1 n2] [ri n1 f1,ri n2 f2] (B true) []from rRowT h0 h1),c_ [1,5] (show S 20 [.sl 0 m1, .sl 1 m2] [ri m1 g1,ri m2 g2] (B true) []from rRowT h2 h3),c_ [3,7] (show S 20 [.sl 0 k1, .sl 1 k2] [ri k1 z1,ri k2 z2] (B true) []from rRowT h4 h5),c_ [2,6] (show S 22 [.sl 0 p1, .sl 1 p2] [some (.row false 48 p1 2 (fun i=>[I (x1 i),I (y1 i)])),some (.row false 48 p2 2 (fun i=>[I (x2 i),I (y2 i)]))] (B true) []from rPartsT h6 h7),n_ 14 (t_ rt)] ?_
 rcases bcase (b==b)with h8|h8
 ·obtain⟨L9,K9⟩:=L8 h8
  refine hX.go [n_ 8 (t_ h8)] ?_
  by_cases h9:e=e
  ·have HE:=L9 h9
   exact(hX.to HE.symm).e [n_ 8 (t_ (beq_iff_eq.2 h9))]
  ·have HE:=K9 h9
   exact(hX.to HE.symm).e [n_ 8 (f_ (beq_eq_false_iff_ne.2 h9))]
 ·have HE:=K8 h8
  exact(hX.to HE.symm).e [n_ 8 (f_ h8),n_ 8 (f_ rf)]
theorem rSame {n1 m1 p1 k1 n2 m2 p2 k2:Nat} {f1 g1 x1 y1 z1 f2 g2 x2 y2 z2:Nat→Int} {b b':Bool} {e q e' q':Int} (h1:n1=n2∧ ∀ i,i<n1→f1 i=f2 i) (h2:m1=m2∧ ∀ i,i<m1→g1 i=g2 i) (h3:k1=k2∧ ∀ i,i<k1→z1 i=z2 i)
  (h4:p1=p2∧ ∀ i,i<p1→x1 i=x2 i∧y1 i=y2 i) (h5:b=b') (h6:e=e') (h7:q=q') (l1:n1≤10000) (l2:m1≤10000) (l3:k1≤10000) (l4:p1≤10000):
  S 13 [.agg [.sl 0 n1, .sl 1 m1, .sl 2 p1,B b,I e,I q, .sl 3 k1], .agg [.sl 4 n2, .sl 5 m2, .sl 6 p2,B b',I e',I q', .sl 7 k2]] [ri n1 f1,ri m1 g1,some (.row false 48 p1 2 (fun i=>[I (x1 i),I (y1 i)])),ri k1 z1,ri n2 f2,ri m2 g2,some (.row false 48 p2 2 (fun i=>[I (x2 i),I (y2 i)])),ri k2 z2] (B true) []:=by
 subst h5 h6 h7
 exact refSm_w ⟨h1,by omega,h2,by omega,h3,by omega,h4,l4,fun _=>⟨fun _=>by rw[beq_self_eq_true],fun c=>absurd rfl c⟩,fun c=>by cases b<;>cases c⟩
theorem lDay17 (a1 a2 a3:Int):S 21 [I a1,I a2,I a3] [] (I (nbV a1 a2 a3)) []:=
 SCall.st fun X hX=>hX.e [c_ [] (rNumberT a1 a2 a3)]
def want17:List Int:=[nbV 2024 1 15,nbV 2024 4 15,nbV 2024 7 15]
noncomputable def cal17:Cl:=⟨fun i=>decide (5≤i),0,fun _=>⟨0,0,0,0,0,0,0,0⟩,0,fun _=>0⟩
def tms17 (m:Int):Tms:=⟨m,0,0,3,nbV 2024 1 15,nbV 2024 7 15,3,false,false,false,1⟩
theorem cal17_ok:CalOk cal17:=⟨by decide,Nat.zero_le _,Nat.zero_le _,fun i hi=>absurd hi (Nat.not_lt_zero _),fun i hi=>absurd hi (Nat.not_lt_zero _),fun i hi=>absurd hi (Nat.not_lt_zero _)⟩
abbrev calN:SV:= .agg [B false,B false,B false,B false,B false,B true,B true, .val (.slice none 0 0), .val (.slice none 0 0)]
theorem nilArgs (t:Tms) (θ θ':Th) (h0:θ 0=⟨none,0,8⟩) (h1:θ 1=⟨none,0,1⟩):denL θ [tmL t,calL cal17]=denL θ' [tmL t,calN]:=by
 simp only[denL,den,h0,h1];rfl
theorem sSh1:S 11 [.agg [I 1,I 0,I 0,I 3,I (nbV 2024 1 15),I (nbV 2024 7 15),I 3,B false,B false,B false,I 1],calN] [] (.tup [.agg [.sl 0 3, .sl 1 3, .sl 2 2,B false,I (nbV 2024 7 15),I 4, .sl 3 0],I 0]) [ro 3 (fun i=>want17.getD i 0),ro 3 (fun i=>want17.getD i 0),some (.row true 48 2 2 (fun i=>[I 91,I 360])),ro 0 (fun i=>0)]:=by
 have h:=sOf (tms17 1) (C:=cal17) (fun _=>of_decide_eq_true (by kernel_rfl)) cal17_ok
 have e1:schE (tms17 1) cal17=0:=by kernel_rfl
 have e2:plN (tms17 1) cal17=3:=by kernel_rfl
 have e3:plB (tms17 1) cal17=false:=by kernel_rfl
 have e4:plE (tms17 1) cal17=nbV 2024 7 15:=by kernel_rfl
 have e5:plF (tms17 1) cal17=4:=by kernel_rfl
 have e6:plK (tms17 1) cal17=0:=by kernel_rfl
 unfold plS plV ratV at h
 rw[e1,e2,e3,e4,e5,e6]at h
 refine nil2 (SCall.same h (sameHp.refl _) ⟨⟨rfl,rfl,rfl,rfl,fun i hi=> ?_⟩,⟨rfl,rfl,rfl,rfl,fun i hi=> ?_⟩,⟨rfl,rfl,rfl,rfl,fun i hi=> ?_⟩,⟨rfl,rfl,rfl,rfl,fun i hi=>absurd hi (Nat.not_lt_zero _)⟩,trivial⟩) ⟨fun i=>rfl,fun i=>rfl,fun i=>rfl,fun i=>rfl,trivial⟩ (nilArgs _) (fun θ θ' hk=> ?_)
 ·match i,hi with|0,_=>(show _=_;kernel_rfl)|1,_=>(show _=_;kernel_rfl)|2,_=>(show _=_;kernel_rfl)|i+3,hi=>omega
 ·match i,hi with|0,_=>(show _=_;kernel_rfl)|1,_=>(show _=_;kernel_rfl)|2,_=>(show _=_;kernel_rfl)|i+3,hi=>omega
 ·match i,hi with|0,_=>(show _=_;kernel_rfl)|1,_=>(show _=_;kernel_rfl)|i+2,hi=>omega
 ·simp only[den,denL,hk 0,hk 1,hk 2,hk 3]
theorem sSh2:S 11 [.agg [I 0,I 0,I 0,I 3,I (nbV 2024 1 15),I (nbV 2024 7 15),I 3,B false,B false,B false,I 1],calN] [] (.tup [.agg [.sl 0 0, .sl 1 0, .sl 2 0,B false,I 0,I 0, .sl 3 0],I 2]) [ro 0 (fun i=>0),ro 0 (fun i=>0),some (.row true 48 0 2 (fun i=>[I 91,I 360])),ro 0 (fun i=>0)]:=by
 have h:=sOf (tms17 0) (C:=cal17) (fun _=>of_decide_eq_true (by kernel_rfl)) cal17_ok
 have e1:schE (tms17 0) cal17=2:=by kernel_rfl
 have e2:plN (tms17 0) cal17=0:=by kernel_rfl
 have e3:plB (tms17 0) cal17=false:=by kernel_rfl
 have e4:plE (tms17 0) cal17=0:=by kernel_rfl
 have e5:plF (tms17 0) cal17=0:=by kernel_rfl
 have e6:plK (tms17 0) cal17=0:=by kernel_rfl
 unfold plS plV ratV at h
 rw[e1,e2,e3,e4,e5,e6]at h
 refine nil2 (SCall.same h (sameHp.refl _) ⟨⟨rfl,rfl,rfl,rfl,fun i hi=>absurd hi (Nat.not_lt_zero _)⟩,⟨rfl,rfl,rfl,rfl,fun i hi=>absurd hi (Nat.not_lt_zero _)⟩,⟨rfl,rfl,rfl,rfl,fun i hi=>absurd hi (Nat.not_lt_zero _)⟩,⟨rfl,rfl,rfl,rfl,fun i hi=>absurd hi (Nat.not_lt_zero _)⟩,trivial⟩) ⟨fun i=>rfl,fun i=>rfl,fun i=>rfl,fun i=>rfl,trivial⟩ (nilArgs _) (fun θ θ' hk=> ?_)
 simp only[den,denL,hk 0,hk 1,hk 2,hk 3]
theorem shown17:
  S 9 [] [] (B true) []:=by
 refine SCall.st fun X hX=> ?_
 refine hX.go [c_ [] (lDay17 2024 1 15),c_ [] (lDay17 2024 7 15),c_ [] sSh1,c_ [] sSh2] ?_
 refine hX.rd [2,3,4,5,7,8,9,10] ?_
 have h0:3=3∧ ∀ i,i<3→(fun i=>(want17.getD i 0)) i=(fun i=>([(nbV 2024 1 15),(nbV 2024 4 15),(nbV 2024 7 15)].getD i 0)) i:=⟨rfl,fun i hi=>by match i,hi with|0,_=>rfl|1,_=>rfl|2,_=>rfl|i+3,hi=>omega⟩
 have h1:3=3∧ ∀ i,i<3→(fun i=>(want17.getD i 0)) i=(fun i=>(want17.getD i 0)) i:=⟨rfl,fun _ _=>rfl⟩
 have h2:2=2∧(∀ i,i<2→(fun _=>(91:Int)) i=(fun _=>(91:Int)) i∧(fun _=>(360:Int)) i=(fun _=>(360:Int)) i):=⟨rfl,fun _ _=>⟨rfl,rfl⟩⟩
 have h3:2≤10000:=by omega
 exact hX.e [d_ 35,n_ 6 (t_ rt),c_ [] (lDay17 2024 1 15),t_ rt,c_ [] (lDay17 2024 4 15),t_ rt,c_ [] (lDay17 2024 7 15),t_ rt,q_ (show ∀ k,k<3→(fun i=>[I ([(nbV 2024 1 15),(nbV 2024 4 15),(nbV 2024 7 15)].getD i 0)]) k=[[I (nbV 2024 1 15)],[I (nbV 2024 4 15)],[I (nbV 2024 7 15)]].getD k []from by intro k hk;match k,hk with|0,_=>rfl|1,_=>rfl|2,_=>rfl|k+3,hk=>omega),h_ [.row (fun i=>[I ([(nbV 2024 1 15),(nbV 2024 4 15),(nbV 2024 7 15)].getD i 0)])],t_ rt,c_ [3,13] (show S 20 [.sl 0 3, .sl 1 3] [some (.row false 3 3 1 (fun i=>[I (want17.getD i 0)])),some (.row false 3 3 1 (fun i=>[I ([(nbV 2024 1 15),(nbV 2024 4 15),(nbV 2024 7 15)].getD i 0)]))] (B true) []from rowT h0),n_ 6 (t_ rt),c_ [2,3] (show S 20 [.sl 0 3, .sl 1 3] [some (.row false 3 3 1 (fun i=>[I (want17.getD i 0)])),some (.row false 3 3 1 (fun i=>[I (want17.getD i 0)]))] (B true) []from rowT h1),n_ 6 (t_ rt),q_ (show ∀ k,k<2→(fun i=>[I 91,I 360]) k=[[I 91,I 360],[I 91,I 360]].getD k []from by intro k hk;match k,hk with|0,_=>rfl|1,_=>rfl|k+2,hk=>omega),h_ [.row (fun i=>[I 91,I 360])],t_ rt,c_ [4,14] (show S 22 [.sl 0 2, .sl 1 2] [some (.row false 48 2 2 (fun i=>[I 91,I 360])),some (.row false 48 2 2 (fun i=>[I 91,I 360]))] (B true) []from rPartsT h2 h3),n_ 5 (t_ rt),c_ [] (lDay17 2024 7 15),n_ 13 (t_ rt)]
end Go.Proofs.YtgojmodiaffcbaaGreatDoor
