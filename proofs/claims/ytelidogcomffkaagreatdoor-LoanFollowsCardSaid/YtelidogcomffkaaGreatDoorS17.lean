/-
Chapter 17's laws: what they lean on.
-/
import Derived.Test.YtelidogcomffkaaGreatDoorSp
import Derived.Test.YtelidogcomffkaaGreatDoorProg
import Derived.KernelRfl
set_option linter.unusedSectionVars false
set_option linter.unusedSimpArgs false
set_option linter.unusedVariables false
set_option maxRecDepth 100000
namespace Go.Proofs.YtelidogcomffkaaGreatDoor
open Go Go.Sx
variable [EnvT]
noncomputable def refPts_h0 (n1:Nat) (g2:Nat→Int) (g3:Nat→Int) (n4:Nat) (g5:Nat→Int) (g6:Nat→Int) (x1:Int):SC:=
 ⟨[⟨59,slo 26 [(0, .sl 0 n1),(1, .sl 1 n4),(5,I x1)],[.code (bodyAt Tryz.f59 [1,1,0,1,0,0]), .inLoop (bodyAt Tryz.f59 [1,1,0,1,0,0]), .inBlock 0, .code (bodyAt Tryz.f59 [1,1,1])],{}⟩],[some (.row false 121 n1 2 (fun i=>[I (g2 i),I (g3 i)])),some (.row false 121 n4 2 (fun i=>[I (g5 i),I (g6 i)]))]⟩
theorem refPts_w0 {X:Cx} {n1:Nat} {g2 g3:Nat→Int} {n4:Nat} {g5 g6:Nat→Int} {res:SV} (hX:Fi X 59 [some (.row false 121 n1 2 (fun i=>[I (g2 i),I (g3 i)])),some (.row false 121 n4 2 (fun i=>[I (g5 i),I (g6 i)]))] (res) []) (H:(((n1:Nat):Int)≠((n4:Nat):Int)→(B false:SV)=res)∧(((n1:Nat):Int)=((n4:Nat):Int)→Ok X (refPts_h0 n1 g2 g3 n4 g5 g6 0))):
  Ok X (entry Tryz.prog 59 [.sl 0 n1, .sl 1 n4] [some (.row false 121 n1 2 (fun i=>[I (g2 i),I (g3 i)])),some (.row false 121 n4 2 (fun i=>[I (g5 i),I (g6 i)]))]):=by
 obtain⟨L0,K0⟩:=H
 by_cases h0:((n1:Nat):Int)=((n4:Nat):Int)
 ·have k:=K0 h0
  exact hX.h 22 [f_ (bne_eq_false_iff_eq.2 h0)] (oldM 2) k
 ·have HE:=L0 h0
  exact(hX.to HE.symm).e [t_ (bne_iff_ne.2 h0)]
theorem refPts_w1 {X:Cx} {n1:Nat} {g2 g3:Nat→Int} {n4:Nat} {g5 g6:Nat→Int} {x1:Int} {res:SV} (hX:Fi X 59 [some (.row false 121 n1 2 (fun i=>[I (g2 i),I (g3 i)])),some (.row false 121 n4 2 (fun i=>[I (g5 i),I (g6 i)]))] (res) []) (H:(x1<((n1:Nat):Int)→((0:Int)≤x1∧x1<((n1:Nat):Int))∧((0:Int)≤x1∧x1<((n4:Nat):Int))∧((((g2 x1.toNat)==(g5 x1.toNat))&&(((g3 x1.toNat)==(g6 x1.toNat))&&true))=false→(B false:SV)=res)∧((((g2 x1.toNat)==(g5 x1.toNat))&&(((g3 x1.toNat)==(g6 x1.toNat))&&true))=true→Ir (x1+1)∧Ok X (refPts_h0 n1 g2 g3 n4 g5 g6 (x1+1))))∧(¬x1<((n1:Nat):Int)→(B true:SV)=res)):
  Ok X (refPts_h0 n1 g2 g3 n4 g5 g6 x1):=by
 obtain⟨L0,K0⟩:=H
 by_cases h0:x1<((n1:Nat):Int)
 ·obtain⟨h1,h2,L3,K3⟩:=L0 h0
  refine hX.go [t_ (dt h0),q_ h1,q_ (re n1),q_ h1,q_ h2,q_ (re n4),q_ h2,d_ 8] ?_
  rcases bcase (((g2 x1.toNat)==(g5 x1.toNat))&&(((g3 x1.toNat)==(g6 x1.toNat))&&true))with h3|h3
  ·obtain⟨h4,k⟩:=K3 h3
   exact hX.h 9 [f_ (nf h3),q_ h4] (oldM 2) k
  ·have HE:=L3 h3
   exact(hX.to HE.symm).e [t_ (nt h3)]
 ·have HE:=K0 h0
  exact(hX.to HE.symm).e [f_ (df h0)]
theorem refPts_l {X:Cx} {n:Nat} {g2 g3 g5 g6:Nat→Int} {res:SV} (hX:Fi X 59 [some (.row false 121 n 2 (fun i=>[I (g2 i),I (g3 i)])),some (.row false 121 n 2 (fun i=>[I (g5 i),I (g6 i)]))] res []) (hn:n≤10000)
  (hr:B (decide (n=n∧ ∀ i,i<n→g2 i=g5 i∧g3 i=g6 i))=res): ∀ (f i:Nat),i+f=n→(∀ j,j<i→g2 j=g5 j∧g3 j=g6 j)→Ok X (refPts_h0 n g2 g3 n g5 g6 (i:Int))
 |0,i,hi,hj=>refPts_w1 hX ⟨fun c=>absurd c (by omega),fun _=>by rw[←hr,decide_eq_true ⟨rfl,fun j h=>hj j (by omega)⟩]⟩
 |f+1,i,hi,hj=>by
  have ti:((i:Int)).toNat=i:=Int.toNat_natCast _
  refine refPts_w1 hX ⟨fun _=> ?_,fun c=>absurd (show(i:Int)<((n:Nat):Int)by omega) c⟩
  rw[ti]
  refine⟨by omega,by omega,fun c=> ?_,fun c=>⟨irT (by omega),refPts_l hX hn hr f (i+1) (by omega) (fun j h=> ?_)⟩⟩
  ·rw[←hr,decide_eq_false (fun q=>by have:=q.2 i (by omega);simp[this.1,this.2]at c)]
  ·rcases Nat.lt_or_ge j i with d|d
   ·exact hj j d
   ·rw[show j=i by omega];simp at c;exact c
theorem rParts {n m:Nat} {g2 g3 g5 g6:Nat→Int} (hn:n≤10000):S 59 [.sl 0 n, .sl 1 m] [some (.row false 121 n 2 (fun i=>[I (g2 i),I (g3 i)])),some (.row false 121 m 2 (fun i=>[I (g5 i),I (g6 i)]))] (B (decide (n=m∧ ∀ i,i<n→g2 i=g5 i∧g3 i=g6 i))) []:=by
 refine SCall.st fun X hX=>refPts_w0 hX ⟨fun c=> ?_,fun c=> ?_⟩
 ·rw[decide_eq_false (fun q=>c (by rw[q.1]))]
 ·have e:n=m:=by omega
  subst e
  exact refPts_l hX hn rfl n 0 (by omega) (fun j h=>absurd h (Nat.not_lt_zero _))
theorem refShW_w {a1 a2 a3 a4 a5 a6 a7:Int} {a8 a9 a10:Bool} {a11 a12:Int} {res:SV} (H:Ir (31*a12)∧((IntKind.wrap .i64 (a6-a5))≤(31*a12)→(B (decide (a5≤a6)):SV)=res)∧(¬(IntKind.wrap .i64 (a6-a5))≤(31*a12)→(B false:SV)=res)):
  S 30 [.agg [I a1,I a2,I a3,I a4,I a5,I a6,I a7,B a8,B a9,B a10,I a11],I a12] [] (res) []:=by
 refine SCall.st fun X hX=> ?_
 obtain⟨h0,L1,K1⟩:=H
 refine hX.go [q_ h0,h_ [.w, .t]] ?_
 by_cases h1:(IntKind.wrap .i64 (a6-a5))≤(31*a12)
 ·have HE:=L1 h1
  exact(hX.to HE.symm).e [n_ 6 (t_ (dt h1))]
 ·have HE:=K1 h1
  exact(hX.to HE.symm).e [n_ 6 (f_ (df h1))]
def shW (s e k:Int):Bool:=decide (IntKind.wrap .i64 (e-s)≤31*k∧s≤e)
theorem shW_eq {s e k:Int} (h:Ir (e-s)):shW s e k=shB s e k:=by unfold shW shB;rw[wrap_InR h]
theorem rShortW (a1 a2 a3 a4 a5 a6 a7:Int) (a8 a9 a10:Bool) (a11 k:Int) (h1:Ir (31*k)):
  S 30 [.agg [I a1,I a2,I a3,I a4,I a5,I a6,I a7,B a8,B a9,B a10,I a11],I k] [] (B (shW a5 a6 k)) []:=by
 refine refShW_w ⟨h1,fun c=> ?_,fun c=> ?_⟩
 ·rw[show shW a5 a6 k=decide (a5≤a6)by unfold shW;rw[decide_eq_decide];constructor<;>intro h<;>first|exact h.2|exact⟨c,h⟩]
 ·rw[show shW a5 a6 k=false from decide_eq_false (fun h=>c h.1)]
theorem refSh_w {a1 a2 a3 a4 a5 a6 a7:Int} {a8 a9 a10:Bool} {a11:Int} {C:Cl} {m:Int} {res:SV} (H:((fewB C)=false→(B false:SV)=res)∧((fewB C)=true→((calMay C)=false→(B false:SV)=res)∧((calMay C)=true→Ir (31*m)∧((chk a1 a2 a3 a4 a5 a6 a7 a11)≠0→(B true:SV)=res)∧((chk a1 a2 a3 a4 a5 a6 a7 a11)=0→(B (shW a5 a6 m):SV)=res)))):
  S 11 [.agg [I a1,I a2,I a3,I a4,I a5,I a6,I a7,B a8,B a9,B a10,I a11], .agg [B (C.off 0),B (C.off 1),B (C.off 2),B (C.off 3),B (C.off 4),B (C.off 5),B (C.off 6), .sl 0 C.nr, .sl 1 C.nd],I m] (calH C) (res) []:=by
 refine SCall.st fun X hX=> ?_
 obtain⟨L0,K0⟩:=H
 refine hX.go [c_ [0,1] (show S 28 [.agg [B (C.off 0),B (C.off 1),B (C.off 2),B (C.off 3),B (C.off 4),B (C.off 5),B (C.off 6), .sl 0 C.nr, .sl 1 C.nd]] (calH C) (B (fewB C)) []from refFew),c_ [0,1] (show S 29 [.agg [B (C.off 0),B (C.off 1),B (C.off 2),B (C.off 3),B (C.off 4),B (C.off 5),B (C.off 6), .sl 0 C.nr, .sl 1 C.nd]] (calH C) (B (calMay C)) []from refMay)] ?_
 rcases bcase (fewB C)with h0|h0
 ·obtain⟨L1,K1⟩:=K0 h0
  refine hX.go [n_ 3 (f_ (nf h0))] ?_
  rcases bcase (calMay C)with h1|h1
  ·obtain⟨h2,L3,K3⟩:=K1 h1
   refine hX.go [f_ (nf h1),c_ [] (rCheck a1 a2 a3 a4 a5 a6 a7 a8 a9 a10 a11),c_ [] (show S 30 [.agg [I a1,I a2,I a3,I a4,I a5,I a6,I a7,B a8,B a9,B a10,I a11],I m] [] (B (shW a5 a6 m)) []from rShortW _ _ _ _ _ _ _ _ _ _ _ _ h2)] ?_
   by_cases h3:(chk a1 a2 a3 a4 a5 a6 a7 a11)=0
   ·have HE:=K3 h3
    exact(hX.to HE.symm).e [f_ (bne_eq_false_iff_eq.2 h3),f_ (bne_eq_false_iff_eq.2 h3)]
   ·have HE:=L3 h3
    exact(hX.to HE.symm).e [t_ (bne_iff_ne.2 h3),t_ (bne_iff_ne.2 h3)]
  ·have HE:=L1 h1
   exact(hX.to HE.symm).e [t_ (nt h1)]
 ·have HE:=L0 h0
  exact(hX.to HE.symm).e [n_ 3 (t_ (nt h0)),t_ rt]
noncomputable def shP (t:Tms) (C:Cl) (m:Int):Bool:=fewB C&&(calMay C&&(decide (tCk t≠0)||shW t.a5 t.a6 m))
theorem tCk_ir {t:Tms} (h:tCk t=0):Ir (t.a6-t.a5):=by
 have hL:=tCk_loan h
 have d1:=isDay_iff.1 hL.ds
 have d2:=isDay_iff.1 hL.de
 exact irT (by omega)
theorem shP_t {t:Tms} {C:Cl} {m:Int} (h:shP t C m=true) (hm:m≤200):CalOk C∧tSh t∧(tCk t=0→t.a6-t.a5≤31*m):=by
 unfold shP at h
 simp only[Bool.and_eq_true,Bool.or_eq_true,decide_eq_true_eq]at h
 obtain⟨-,h2,h3⟩:=h
 have k:tCk t=0→t.a6-t.a5≤31*m:=fun c=>by
  have h4:=h3.resolve_left (fun d=>d c)
  rw[shW_eq (tCk_ir c)]at h4
  exact(shB_t h4).1
 exact⟨calMay_t.1 h2,fun c=>by have:=k c;have:=(tCk_loan c).m1;omega,k⟩
theorem rShort17 (t:Tms) {C:Cl} {m:Int} (hm:0≤m∧m≤1000):S 11 [tmL t,calL C,I m] (calH C) (B (shP t C m)) []:=by
 unfold shP
 refine refSh_w ⟨fun c=>by rw[c];rfl,fun c=>⟨fun d=>by rw[c,d];rfl,fun d=> ?_⟩⟩
 rw[c,d]
 exact⟨irT (by omega),fun e=>by rw[decide_eq_true (show tCk t≠0 from e)];rfl,fun e=>by rw[decide_eq_false (show¬tCk t≠0 from fun z=>z e)];rfl⟩
end Go.Proofs.YtelidogcomffkaaGreatDoor
namespace Go.Proofs.YtelidogcomffkaaGreatDoor
open Go Go.Sx
variable [EnvT]
theorem nil2 {P:Program} {gl:List (Nat×Vw)} {f:FuncId} {args args':List SV} {el1 el2:TypeId} {s1 s2:Nat} {g1 g2:Nat→List SV} {res res':SV} {new:List (Option Vw)}
  (h:SCall P gl f args [some (.row false el1 0 s1 g1),some (.row false el2 0 s2 g2)] res new) (hn:ScHp 0 new)
  (ha: ∀ θ θ':Th,θ 0=⟨none,0,s1⟩→θ 1=⟨none,0,s2⟩→denL θ args=denL θ' args') (hr: ∀ θ θ':Th,(∀ k,θ (k+2)=θ' k)→den θ res=den θ' res'):SCall P gl f args' [] res' new:=by
 intro θ w hh hg cs
 have hz: ∀ a b:Th,Go.Sx.Same 0 a b:=fun a b t ht=>absurd ht (Nat.not_lt_zero _)
 let up:Th→Th:=fun θ t=>if t=0 then⟨none,0,s1⟩else if t=1 then⟨none,0,s2⟩else θ (t-2)
 have u0: ∀ θ,up θ 0=⟨none,0,s1⟩:=fun θ=>if_pos rfl
 have u1: ∀ θ,up θ 1=⟨none,0,s2⟩:=fun θ=>by show(if 1=0 then _ else _)=_;rw[if_neg (by decide),if_pos rfl]
 have u2: ∀ θ k,up θ (k+2)=θ k:=fun θ k=>by show(if k+2=0 then _ else _)=_;rw[if_neg (by omega),if_neg (by omega)];congr 1
 have nilOk: ∀ (θ:Th) (el:TypeId) (s:Nat) (g:Nat→List SV),VwOk θ w.heap.size w ⟨none,0,s⟩ (.row false el 0 s g):=fun θ el s g=>
  ⟨rfl,Nat.le_refl _,⟨.inl rfl,(fun a ha=>by cases ha)⟩,fun i hi=>absurd hi (Nat.not_lt_zero _),(fun a ha=>by cases ha),(fun h=>by cases h)⟩
 have hh2:HpOk (up θ) w.heap.size [some (.row false el1 0 s1 g1),some (.row false el2 0 s2 g2)] w:=by
  refine⟨fun t u hu=> ?_,fun t t' u u' hu hu' hne hown=> ?_⟩
  ·match t,hu with
   |0,hu=>simp only[List.getElem?_cons_zero,Option.some.injEq]at hu;subst hu;rw[u0];exact nilOk _ _ _ _
   |1,hu=>simp only[List.getElem?_cons_succ,List.getElem?_cons_zero,Option.some.injEq]at hu;subst hu;rw[u1];exact nilOk _ _ _ _
   |t+2,hu=>simp at hu
  ·have:u.own=false:=by
    match t,hu with
    |0,hu=>simp only[List.getElem?_cons_zero,Option.some.injEq]at hu;subst hu;rfl
    |1,hu=>simp only[List.getElem?_cons_succ,List.getElem?_cons_zero,Option.some.injEq]at hu;subst hu;rfl
    |t+2,hu=>simp at hu
   rw[this]at hown;cases hown
 obtain⟨e,w',fr',⟨hb,r,he,nw,hk⟩,hc,h3,h4⟩:=h (up θ) w hh2 hg cs
 rw[ha (up θ) θ (u0 θ) (u1 θ)]at hc
 refine⟨e,w',fr',⟨hb,r,he,nw,fun θ' hs' hk'=> ?_⟩,hc,h3,h4⟩
 obtain⟨h5,h6⟩:=hk (up θ') (fun t ht=>by
  match t,ht with
  |0,_=>rw[u0,u0]
  |1,_=>rw[u1,u1]) (fun k hk2=>by
  show up θ' (2+k)=_
  rw[Nat.add_comm,u2,←hk' k hk2]
  show θ' k=θ' (0+k)
  rw[Nat.zero_add])
 rw[hr (up θ') θ' (u2 θ')]at h5
 refine⟨h5,fun t u hu=> ?_,fun t t' u u' hu hu' hne hown hl a a' haa haa'=> ?_⟩
 ·have hu2:new[t]? =some (some u):=hu
  have:=(h6.vw (t+2) u (by simpa using hu2)).sc (hz _ θ') (hn.get hu2)
  rwa [u2]at this
 ·exact h6.ne (t+2) (t'+2) u u' (by simpa using hu) (by simpa using hu') (by omega) hown hl a a' (by rw[u2];exact haa) (by rw[u2];exact haa')
theorem rPartsT {n m:Nat} {g2 g3 g5 g6:Nat→Int} (h:n=m∧ ∀ i,i<n→g2 i=g5 i∧g3 i=g6 i) (hn:n≤10000):S 59 [.sl 0 n, .sl 1 m] [some (.row false 121 n 2 (fun i=>[I (g2 i),I (g3 i)])),some (.row false 121 m 2 (fun i=>[I (g5 i),I (g6 i)]))] (B true) []:=by
 have:=rParts (n:=n) (m:=m) (g2:=g2) (g3:=g3) (g5:=g5) (g6:=g6) hn
 rw[decide_eq_true h]at this
 exact this
theorem refSm_w {n1 m1 p1 k1:Nat} {f1 g1 x1 y1 z1:Nat→Int} {n2 m2 p2 k2:Nat} {f2 g2 x2 y2 z2:Nat→Int} {b:Bool} {e q:Int} {res:SV} (H:(n1=n2∧ ∀ i,i<n1→f1 i=f2 i)∧n1≤100000∧(m1=m2∧ ∀ i,i<m1→g1 i=g2 i)∧m1≤100000∧(k1=k2∧ ∀ i,i<k1→z1 i=z2 i)∧k1≤100000∧(p1=p2∧ ∀ i,i<p1→x1 i=x2 i∧y1 i=y2 i)∧p1≤10000∧((b==b)=true→(e=e→(B (q==q):SV)=res)∧(e≠e→(B false:SV)=res))∧((b==b)=false→(B false:SV)=res)):
  S 33 [.agg [.sl 0 n1, .sl 1 m1, .sl 2 p1,B b,I e,I q, .sl 3 k1], .agg [.sl 4 n2, .sl 5 m2, .sl 6 p2,B b,I e,I q, .sl 7 k2]] [ri n1 f1,ri m1 g1,some (.row false 121 p1 2 (fun i=>[I (x1 i),I (y1 i)])),ri k1 z1,ri n2 f2,ri m2 g2,some (.row false 121 p2 2 (fun i=>[I (x2 i),I (y2 i)])),ri k2 z2] (res) []:=by
 refine SCall.st fun X hX=> ?_
 obtain⟨h0,h1,h2,h3,h4,h5,h6,h7,L8,K8⟩:=H
 refine hX.go [c_ [0,4] (show S 58 [.sl 0 n1, .sl 1 n2] [ri n1 f1,ri n2 f2] (B true) []from rRowT h0 h1),c_ [1,5] (show S 58 [.sl 0 m1, .sl 1 m2] [ri m1 g1,ri m2 g2] (B true) []from rRowT h2 h3),c_ [3,7] (show S 58 [.sl 0 k1, .sl 1 k2] [ri k1 z1,ri k2 z2] (B true) []from rRowT h4 h5),c_ [2,6] (show S 59 [.sl 0 p1, .sl 1 p2] [some (.row false 121 p1 2 (fun i=>[I (x1 i),I (y1 i)])),some (.row false 121 p2 2 (fun i=>[I (x2 i),I (y2 i)]))] (B true) []from rPartsT h6 h7),n_ 14 (t_ rt)] ?_
 rcases bcase (b==b)with h8|h8
 ·obtain⟨L9,K9⟩:=L8 h8
  refine hX.go [n_ 8 (t_ h8)] ?_
  by_cases h9:e=e
  ·have HE:=L9 h9
   exact(hX.to HE.symm).e [n_ 8 (t_ (beq_iff_eq.2 h9))]
  ·have HE:=K9 h9
   exact(hX.to HE.symm).e [n_ 8 (f_ (beq_eq_false_iff_ne.2 h9))]
 ·have HE:=K8 h8
  exact(hX.to HE.symm).e [n_ 8 (f_ h8),n_ 8 (f_ rf)]
theorem rSame {n1 m1 p1 k1 n2 m2 p2 k2:Nat} {f1 g1 x1 y1 z1 f2 g2 x2 y2 z2:Nat→Int} {b b':Bool} {e q e' q':Int} (h1:n1=n2∧ ∀ i,i<n1→f1 i=f2 i) (h2:m1=m2∧ ∀ i,i<m1→g1 i=g2 i) (h3:k1=k2∧ ∀ i,i<k1→z1 i=z2 i)
  (h4:p1=p2∧ ∀ i,i<p1→x1 i=x2 i∧y1 i=y2 i) (h5:b=b') (h6:e=e') (h7:q=q') (l1:n1≤10000) (l2:m1≤10000) (l3:k1≤10000) (l4:p1≤10000):
  S 33 [.agg [.sl 0 n1, .sl 1 m1, .sl 2 p1,B b,I e,I q, .sl 3 k1], .agg [.sl 4 n2, .sl 5 m2, .sl 6 p2,B b',I e',I q', .sl 7 k2]] [ri n1 f1,ri m1 g1,some (.row false 121 p1 2 (fun i=>[I (x1 i),I (y1 i)])),ri k1 z1,ri n2 f2,ri m2 g2,some (.row false 121 p2 2 (fun i=>[I (x2 i),I (y2 i)])),ri k2 z2] (B true) []:=by
 subst h5 h6 h7
 exact refSm_w ⟨h1,by omega,h2,by omega,h3,by omega,h4,l4,fun _=>⟨fun _=>by rw[beq_self_eq_true],fun c=>absurd rfl c⟩,fun c=>by cases b<;>cases c⟩
noncomputable def cal0:Cl:=⟨fun _=>false,0,fun _=>⟨0,0,0,0,0,0,0,0⟩,0,fun _=>0⟩
theorem cal0_ok:CalOk cal0:=⟨by decide,Nat.zero_le _,Nat.zero_le _,fun i hi=>absurd hi (Nat.not_lt_zero _),fun i hi=>absurd hi (Nat.not_lt_zero _),fun i hi=>absurd hi (Nat.not_lt_zero _)⟩
theorem sOfN (t:Tms) (hs:tSh t):S 31 [tmL t, .agg [B false,B false,B false,B false,B false,B false,B false, .val (.slice none 0 0), .val (.slice none 0 0)]] [] (.tup [.agg [.sl 0 (plN t cal0), .sl 1 (plN t cal0), .sl 2 (plN t cal0-1),B (plB t cal0),I (plE t cal0),I (plF t cal0), .sl 3 (plK t cal0)],I (schE t cal0)]) (plV t cal0):=
 nil2 (sOf t hs cal0_ok) ⟨fun i=>rfl,fun i=>rfl,fun i=>rfl,fun i=>rfl,trivial⟩ (fun θ θ' h0 h1=>by
  have e1:cal0.nr=0:=rfl
  have e2:cal0.nd=0:=rfl
  simp only[denL,den,h0,h1,e1,e2];rfl) (fun θ θ' hk=>by simp only[plS,den,denL,hk 0,hk 1,hk 2,hk 3])
end Go.Proofs.YtelidogcomffkaaGreatDoor
