/-
LoanBefore.
-/
import Derived.Test.YtelidogcomffkaaGreatDoorSh22
import Derived.Test.YtelidogcomffkaaGreatDoorProg
import Derived.KernelRfl
set_option linter.unusedSectionVars false
set_option linter.unusedSimpArgs false
set_option linter.unusedVariables false
set_option maxRecDepth 100000
namespace Go.Proofs.YtelidogcomffkaaGreatDoor
open Go Go.Sx
variable [EnvT]
def dupN (k t:Nat):Nat:=if t<k then t else t-k
theorem SCall.dupN {P:Program} {gl:List (Nat×Vw)} {f:FuncId} {args args':List SV} {vs:List (Option Vw)} {res res':SV} (h:SCall P gl f args (vs++vs) res []) (ho: ∀ u,some u∈vs→u.own=false) (hs:ScHp 0 vs)
  (ha:rnmL (Go.Proofs.YtelidogcomffkaaGreatDoor.dupN vs.length) args=args') (hr:rnm (Go.Proofs.YtelidogcomffkaaGreatDoor.dupN vs.length) res=res'):SCall P gl f args' vs res' []:=by
 intro θ w hh hg cs
 have hz: ∀ a b:Th,Go.Sx.Same 0 a b:=fun a b t ht=>absurd ht (Nat.not_lt_zero _)
 have at_: ∀ t u,(vs++vs)[t]? =some (some u)→vs[Go.Proofs.YtelidogcomffkaaGreatDoor.dupN vs.length t]? =some (some u):=fun t u hu=>by
  unfold Go.Proofs.YtelidogcomffkaaGreatDoor.dupN
  by_cases c:t<vs.length
  ·rw[if_pos c];rwa [List.getElem?_append_left c]at hu
  ·rw[if_neg c];rwa [List.getElem?_append_right (by omega)]at hu
 have hh2:HpOk (fun t=>θ (Go.Proofs.YtelidogcomffkaaGreatDoor.dupN vs.length t)) w.heap.size (vs++vs) w:=by
  refine⟨fun t u hu=>(hh.vw _ u (at_ t u hu)).sc (hz _ _) (hs.get (at_ t u hu)),fun t t' u u' hu hu' hne hown=> ?_⟩
  have:=ho u (List.mem_of_getElem? (at_ t u hu))
  rw[this]at hown;cases hown
 obtain⟨e,w',fr',⟨hb,r,he,nw,hk⟩,hc,h3,h4⟩:=h (fun t=>θ (Go.Proofs.YtelidogcomffkaaGreatDoor.dupN vs.length t)) w hh2 hg cs
 rw[←denL_rnm,ha]at hc
 refine⟨e,w',fr',⟨hb,r,he,nw,fun θ' hs' hk'=> ?_⟩,hc,h3,h4⟩
 obtain⟨h5,h6⟩:=hk (fun t=>θ' (Go.Proofs.YtelidogcomffkaaGreatDoor.dupN vs.length t)) (fun t ht=>hs' _ (by
  rw[List.length_append]at ht
  unfold Go.Proofs.YtelidogcomffkaaGreatDoor.dupN;split<;>omega)) (fun k hk2=>absurd hk2 (Nat.not_lt_zero _))
 rw[←den_rnm,hr]at h5
 rw[List.append_nil]at h6⊢
 have id_: ∀ t u,vs[t]? =some (some u)→(vs++vs)[t]? =some (some u)∧Go.Proofs.YtelidogcomffkaaGreatDoor.dupN vs.length t=t:=fun t u hu=>by
  have c:t<vs.length:=(List.getElem?_eq_some_iff.1 hu).1
  exact⟨by rw[List.getElem?_append_left c];exact hu,if_pos c⟩
 refine⟨h5,fun t u hu=> ?_,fun t t' u u' hu hu' hne hown hl a a' haa haa'=> ?_⟩
 ·have:=(h6.vw t u (id_ t u hu).1).sc (hz _ θ') (hs.get hu)
  simp only[(id_ t u hu).2]at this;exact this
 ·have:=ho u (List.mem_of_getElem? hu)
  rw[this]at hown;cases hown
theorem rSameD {n m p k:Nat} {f g x y z:Nat→Int} {b:Bool} {e q:Int} (l1:n≤10000) (l2:m≤10000) (l3:k≤10000) (l4:p≤10000):
  S 33 [.agg [.sl 0 n, .sl 1 m, .sl 2 p,B b,I e,I q, .sl 3 k], .agg [.sl 0 n, .sl 1 m, .sl 2 p,B b,I e,I q, .sl 3 k]] [ri n f,ri m g,some (.row false 121 p 2 (fun i=>[I (x i),I (y i)])),ri k z] (B true) []:=
 SCall.dupN (vs:=[ri n f,ri m g,some (.row false 121 p 2 (fun i=>[I (x i),I (y i)])),ri k z]) (rSame ⟨rfl,fun _ _=>rfl⟩ ⟨rfl,fun _ _=>rfl⟩ ⟨rfl,fun _ _=>rfl⟩ ⟨rfl,fun _ _=>⟨rfl,rfl⟩⟩ rfl rfl rfl l1 l2 l3 l4)
  (fun u hu=>by simp only[List.mem_cons,List.not_mem_nil,or_false,Option.some.injEq]at hu;rcases hu with rfl|rfl|rfl|rfl<;>rfl) ⟨fun i=>rfl,fun i=>rfl,fun i=>rfl,fun i=>rfl,trivial⟩ rfl rfl
theorem rSameL (L:Ln) (l1:L.nd≤10000) (l2:L.nr≤10000) (l3:L.nk≤10000) (l4:L.np≤10000):
  S 33 [.agg [.sl 0 L.nd, .sl 1 L.nr, .sl 2 L.np,B L.eo,I L.en,I L.fq, .sl 3 L.nk], .agg [.sl 0 L.nd, .sl 1 L.nr, .sl 2 L.np,B L.eo,I L.en,I L.fq, .sl 3 L.nk]] (lnH L) (B true) []:=rSameD l1 l2 l3 l4
theorem refS22_w {L:Ln} (H:L.nd≤10000∧L.nr≤10000∧L.nk≤10000∧L.np≤10000∧((L.t.a1==L.t.a1)&&((L.t.a2==L.t.a2)&&((L.t.a3==L.t.a3)&&((L.t.a4==L.t.a4)&&((L.t.a5==L.t.a5)&&((L.t.a6==L.t.a6)&&((L.t.a7==L.t.a7)&&(((L.t.a8)==(L.t.a8))&&(((L.t.a9)==(L.t.a9))&&(((L.t.a10)==(L.t.a10))&&((L.t.a11==L.t.a11)&&true)))))))))))=true∧L.op=L.op∧L.du=L.du∧L.fr=L.fr∧L.ba=L.ba∧(L.it==L.it)=true):
  S 14 [lnL L,lnL L] (lnH L) (B true) []:=by
 refine SCall.st fun X hX=> ?_
 obtain⟨h0,h1,h2,h3,c4,K4⟩:=H
 refine hX.go [c_ [0,1,2,3] (rSameL L h0 h1 h2 h3),n_ 6 (t_ rt)] ?_
 rcases bcase ((L.t.a1==L.t.a1)&&((L.t.a2==L.t.a2)&&((L.t.a3==L.t.a3)&&((L.t.a4==L.t.a4)&&((L.t.a5==L.t.a5)&&((L.t.a6==L.t.a6)&&((L.t.a7==L.t.a7)&&(((L.t.a8)==(L.t.a8))&&(((L.t.a9)==(L.t.a9))&&(((L.t.a10)==(L.t.a10))&&((L.t.a11==L.t.a11)&&true)))))))))))with h4|h4
 ·obtain⟨c5,K5⟩:=K4
  refine hX.go [n_ 6 (t_ h4)] ?_
  by_cases h5:L.op=L.op
  ·obtain⟨c6,K6⟩:=K5
   refine hX.go [n_ 6 (t_ (beq_iff_eq.2 h5))] ?_
   by_cases h6:L.du=L.du
   ·obtain⟨c7,K7⟩:=K6
    refine hX.go [n_ 6 (t_ (beq_iff_eq.2 h6))] ?_
    by_cases h7:L.fr=L.fr
    ·obtain⟨c8,K8⟩:=K7
     refine hX.go [n_ 6 (t_ (beq_iff_eq.2 h7))] ?_
     by_cases h8:L.ba=L.ba
     ·have HE:=K8
      exact(hX.to (congrArg B HE).symm).e [n_ 6 (t_ (beq_iff_eq.2 h8))]
     ·exact absurd c8 h8
    ·exact absurd c7 h7
   ·exact absurd c6 h6
  ·exact absurd c5 h5
 ·exact Go.Sx.nob c4 h4
theorem refL22_w {L:Ln} {res:SV} (H:Ir (((L.nr:Nat):Int)-1)∧((0:Int)≤(((L.nr:Nat):Int)-1)∧(((L.nr:Nat):Int)-1)<((L.nr:Nat):Int))∧(I (L.R ((((L.nr:Nat):Int)-1).toNat)):SV)=res):
  S 25 [lnL L] (lnH L) (res) []:=by
 refine SCall.st fun X hX=> ?_
 obtain⟨h0,h1,HE⟩:=H
 exact(hX.to HE.symm).e [q_ h0,q_ h1,q_ (show L.nr=L.nr from rfl),q_ h1]
theorem rSame22 {x y:Ln} (h:LnEq x y):S 14 [lnL x,lnL y] (lnH x) (B true) []:=by
 obtain⟨rfl,h1,h2,h3,h4⟩:=h
 refine refS22_w ⟨h1,h2,h3,h4, ?_,rfl,rfl,rfl,rfl,by simp⟩
 simp
theorem rLast22 (L:Ln) (hn:1≤L.nr∧L.nr≤100000):S 25 [lnL L] (lnH L) (I (L.R (L.nr-1))) []:=
 refL22_w ⟨irT (by omega),by omega,by rw[show(((L.nr:Nat):Int)-1).toNat=L.nr-1 by omega]⟩
end Go.Proofs.YtelidogcomffkaaGreatDoor
namespace Go.Proofs.YtelidogcomffkaaGreatDoor
open Go Go.Sx
variable [EnvT]
theorem lBefore_w {t:Tms} {C:Cl} {bk:Int} (H:((chk t.a1 t.a2 t.a3 t.a4 t.a5 t.a6 t.a7 t.a11)=0→((shP t C 36)=true→tSh t∧CalOk C∧((schE t C)=0→((0:Int)≤0∧0<(((plN t C):Nat):Int))∧Ir bk∧Ir (((tR t C 0).1)-(Int.tmod bk 1000))∧(¬(((tR t C 0).1)-(Int.tmod bk 1000))<1→(1≤(oL t C).nr∧(oL t C).nr≤100000)∧Ir (oL t C).op∧Ir (oL t C).t.a2∧PyOk (oL t C) (((tR t C 0).1)-(Int.tmod bk 1000)) 5∧NDay t.a5∧((toV C t.a5 t.a11).2)=0∧((toV C t.a5 t.a11).1)=((tR t C 0).1)∧(goE (((tR t C 0).1)-(Int.tmod bk 1000)))=0∧(owV (oL t C) (((tR t C 0).1)-(Int.tmod bk 1000)))=0∧(quV (oL t C) (((tR t C 0).1)-(Int.tmod bk 1000)))=t.a1∧LnEq (goL (oL t C) (((tR t C 0).1)-(Int.tmod bk 1000))) (oL t C)∧((((tR t C 0).1)-(Int.tmod bk 1000))<((tR t C 0).1)→((((pyE (oL t C) (((tR t C 0).1)-(Int.tmod bk 1000)) 5)==4)&&(((pyA (oL t C) (((tR t C 0).1)-(Int.tmod bk 1000)) 5)==0)&&(((pyB (oL t C) (((tR t C 0).1)-(Int.tmod bk 1000)) 5)==0)&&(((pyC (oL t C) (((tR t C 0).1)-(Int.tmod bk 1000)) 5)==0)&&true))))=true→LnEq (pyL (oL t C) (((tR t C 0).1)-(Int.tmod bk 1000)) 5) (oL t C))∧((((pyE (oL t C) (((tR t C 0).1)-(Int.tmod bk 1000)) 5)==4)&&(((pyA (oL t C) (((tR t C 0).1)-(Int.tmod bk 1000)) 5)==0)&&(((pyB (oL t C) (((tR t C 0).1)-(Int.tmod bk 1000)) 5)==0)&&(((pyC (oL t C) (((tR t C 0).1)-(Int.tmod bk 1000)) 5)==0)&&true))))=false→(((tR t C 0).1)-(Int.tmod bk 1000))=((tR t C 0).1)∧(pyE (oL t C) (((tR t C 0).1)-(Int.tmod bk 1000)) 5)=0∧((pyA (oL t C) (((tR t C 0).1)-(Int.tmod bk 1000)) 5)==0)=true))∧(¬(((tR t C 0).1)-(Int.tmod bk 1000))<((tR t C 0).1)→(((tR t C 0).1)-(Int.tmod bk 1000))=((tR t C 0).1)∧(pyE (oL t C) (((tR t C 0).1)-(Int.tmod bk 1000)) 5)=0∧((pyA (oL t C) (((tR t C 0).1)-(Int.tmod bk 1000)) 5)==0)=true)))))):
  S 9 [.agg [I t.a1,I t.a2,I t.a3,I t.a4,I t.a5,I t.a6,I t.a7,B (t.a8),B (t.a9),B (t.a10),I t.a11], .agg [B (C.off 0),B (C.off 1),B (C.off 2),B (C.off 3),B (C.off 4),B (C.off 5),B (C.off 6), .sl 0 C.nr, .sl 1 C.nd],N .u16 bk] (calH C) (B true) []:=by
 refine SCall.st fun X hX=> ?_
 refine hX.go [c_ [] shown22,c_ [] (rCheck t.a1 t.a2 t.a3 t.a4 t.a5 t.a6 t.a7 (t.a8) (t.a9) (t.a10) t.a11)] ?_
 by_cases h0:(chk t.a1 t.a2 t.a3 t.a4 t.a5 t.a6 t.a7 t.a11)=0
 ·have K1:=H h0
  refine hX.go [n_ 3 (f_ (bne_eq_false_iff_eq.2 h0)),c_ [0,1] (show S 11 [.agg [I t.a1,I t.a2,I t.a3,I t.a4,I t.a5,I t.a6,I t.a7,B (t.a8),B (t.a9),B (t.a10),I t.a11], .agg [B (C.off 0),B (C.off 1),B (C.off 2),B (C.off 3),B (C.off 4),B (C.off 5),B (C.off 6), .sl 0 C.nr, .sl 1 C.nd],I 36] (calH C) (B (shP t C 36)) []from rShort17 t (by decide)),f_ (bne_eq_false_iff_eq.2 h0),f_ (bne_eq_false_iff_eq.2 h0)] ?_
  rcases bcase (shP t C 36)with h1|h1
  ·obtain⟨h2,h3,K4⟩:=K1 h1
   refine hX.go [f_ (nf h1),i_,c_ [0,1] (show S 31 [.agg [I t.a1,I t.a2,I t.a3,I t.a4,I t.a5,I t.a6,I t.a7,B (t.a8),B (t.a9),B (t.a10),I t.a11], .agg [B (C.off 0),B (C.off 1),B (C.off 2),B (C.off 3),B (C.off 4),B (C.off 5),B (C.off 6), .sl 0 C.nr, .sl 1 C.nd]] (calH C) (.tup [.agg [.sl 2 (plN t C), .sl 3 (plN t C), .sl 4 (plN t C-1),B (plB t C),I (plE t C),I (plF t C), .sl 5 (plK t C)],I (schE t C)]) [some (.row true 3 (plN t C) 1 (fun i=>[I (tD t i)])),some (.row true 3 (plN t C) 1 (fun i=>[I ((tR t C i).1)])),some (.row true 121 (plN t C-1) 2 (fun i=>[I ((tP t C i).1),I ((tP t C i).2.1)])),some (.row true 3 (plK t C) 1 (fun i=>[I ((tQ t C i).1)]))]from sOf t h2 h3)] ?_
   by_cases h4:(schE t C)=0
   ·obtain⟨h5,h6,h7,K8⟩:=K4 h4
    refine hX.go [f_ (bne_eq_false_iff_eq.2 h4),q_ h5,q_ (show(plN t C)=(plN t C)from rfl),q_ h5,d_ 8,f_ rf,q_ h6,q_ (show(1000:Int)≠0 from by decide),q_ h7,h_ [.t, .t]] ?_
    by_cases h8:(((tR t C 0).1)-(Int.tmod bk 1000))<1
    ·exact hX.e [t_ (dt h8)]
    ·obtain⟨h9,h10,h11,h12,h13,c14,K14⟩:=K8 h8
     refine hX.go [f_ (df h8),c_ [7,8,9,10] (lOwed (oL t C) (((tR t C 0).1)-(Int.tmod bk 1000)) h9 h10 h11),c_ [7,8,9,10] (lQuote (oL t C) (((tR t C 0).1)-(Int.tmod bk 1000)) h9 h10 h11),c_ [7,8,9,10] (lGo (oL t C) (((tR t C 0).1)-(Int.tmod bk 1000)) h9 h10 h11),c_ [7,8,9,10] (lPay (oL t C) (((tR t C 0).1)-(Int.tmod bk 1000)) 5 h9 h10 h11 h12),c_ [0,1] (show S 26 [.agg [B (C.off 0),B (C.off 1),B (C.off 2),B (C.off 3),B (C.off 4),B (C.off 5),B (C.off 6), .sl 0 C.nr, .sl 1 C.nd],I t.a5,I t.a11] (calH C) (.tup [I ((toV C t.a5 t.a11).1),I ((toV C t.a5 t.a11).2)]) []from rTo h3 h13)] ?_
     by_cases h14:((toV C t.a5 t.a11).2)=0
     ·obtain⟨c15,K15⟩:=K14
      refine hX.go [n_ 4 (f_ (bne_eq_false_iff_eq.2 h14))] ?_
      by_cases h15:((toV C t.a5 t.a11).1)=((tR t C 0).1)
      ·obtain⟨c16,K16⟩:=K15
       refine hX.go [n_ 3 (f_ (bne_eq_false_iff_eq.2 h15))] ?_
       by_cases h16:(goE (((tR t C 0).1)-(Int.tmod bk 1000)))=0
       ·obtain⟨c17,K17⟩:=K16
        refine hX.go [n_ 9 (f_ (bne_eq_false_iff_eq.2 h16))] ?_
        by_cases h17:(owV (oL t C) (((tR t C 0).1)-(Int.tmod bk 1000)))=0
        ·obtain⟨c18,K18⟩:=K17
         refine hX.go [n_ 5 (f_ (bne_eq_false_iff_eq.2 h17))] ?_
         by_cases h18:(quV (oL t C) (((tR t C 0).1)-(Int.tmod bk 1000)))=t.a1
         ·obtain⟨h19,L20,K20⟩:=K18
          refine hX.go [n_ 3 (f_ (bne_eq_false_iff_eq.2 h18)),c_ [7,8,9,10] (rSame22 h19),f_ (bne_eq_false_iff_eq.2 h18),f_ (bne_eq_false_iff_eq.2 h18),f_ rf,n_ 4 (t_ rt)] ?_
          by_cases h20:(((tR t C 0).1)-(Int.tmod bk 1000))<((tR t C 0).1)
          ·obtain⟨L21,K21⟩:=L20 h20
           refine hX.go [n_ 3 (t_ (dt h20)),t_ rt,t_ (dt h20),t_ rt] ?_
           rcases bcase (((pyE (oL t C) (((tR t C 0).1)-(Int.tmod bk 1000)) 5)==4)&&(((pyA (oL t C) (((tR t C 0).1)-(Int.tmod bk 1000)) 5)==0)&&(((pyB (oL t C) (((tR t C 0).1)-(Int.tmod bk 1000)) 5)==0)&&(((pyC (oL t C) (((tR t C 0).1)-(Int.tmod bk 1000)) 5)==0)&&true))))with h21|h21
           ·have h22:=L21 h21
            exact hX.e [n_ 3 (t_ h21),c_ [7,8,9,10] (rSame22 h22),t_ rt,t_ h21,n_ 11 (t_ rt)]
           ·obtain⟨c22,K22⟩:=K21 h21
            refine hX.go [n_ 3 (f_ h21),t_ rt,f_ h21,t_ rt,n_ 4 (f_ rf)] ?_
            by_cases h22:(((tR t C 0).1)-(Int.tmod bk 1000))=((tR t C 0).1)
            ·obtain⟨c23,K23⟩:=K22
             refine hX.go [n_ 3 (t_ (beq_iff_eq.2 h22)),f_ rf,t_ (beq_iff_eq.2 h22),f_ rf] ?_
             by_cases h23:(pyE (oL t C) (((tR t C 0).1)-(Int.tmod bk 1000)) 5)=0
             ·have HE:=K23
              exact(hX.to (congrArg B HE).symm).e [n_ 3 (t_ (beq_iff_eq.2 h23)),f_ rf,t_ (beq_iff_eq.2 h23),t_ rt,f_ rf,t_ rt]
             ·exact absurd c23 h23
            ·exact absurd c22 h22
          ·obtain⟨c21,K21⟩:=K20 h20
           refine hX.go [n_ 3 (f_ (df h20)),t_ rt,f_ (df h20),t_ rt,n_ 3 (f_ rf),t_ rt,f_ rf,t_ rt,n_ 4 (f_ rf)] ?_
           by_cases h21:(((tR t C 0).1)-(Int.tmod bk 1000))=((tR t C 0).1)
           ·obtain⟨c22,K22⟩:=K21
            refine hX.go [n_ 3 (t_ (beq_iff_eq.2 h21)),f_ rf,t_ (beq_iff_eq.2 h21),f_ rf] ?_
            by_cases h22:(pyE (oL t C) (((tR t C 0).1)-(Int.tmod bk 1000)) 5)=0
            ·have HE:=K22
             exact(hX.to (congrArg B HE).symm).e [n_ 3 (t_ (beq_iff_eq.2 h22)),f_ rf,t_ (beq_iff_eq.2 h22),t_ rt,f_ rf,t_ rt]
            ·exact absurd c22 h22
           ·exact absurd c21 h21
         ·exact absurd c18 h18
        ·exact absurd c17 h17
       ·exact absurd c16 h16
      ·exact absurd c15 h15
     ·exact absurd c14 h14
   ·exact hX.e [t_ (bne_iff_ne.2 h4),t_ (bne_iff_ne.2 h4)]
  ·exact hX.e [t_ (nt h1)]
 ·exact hX.e [n_ 5 (t_ (bne_iff_ne.2 h0)),t_ rt]
theorem lBefore (t:Tms) (C:Cl) {bk:Int} (hb:InR .u16 bk):S 9 [tmL t,calL C,N .u16 bk] (calH C) (B true) []:=by
 refine lBefore_w fun(h0:tCk t=0) h=> ?_
 have hm:=shP_t h (by decide)
 refine⟨hm.2.1,hm.1,fun q=> ?_⟩
 have p:P36 t C:=⟨hm.2.1,q,by have:=hm.2.2 h0;omega⟩
 have g:=oL_good p
 have hn:=tN_36 p
 have e1:plN t C=tN t:=if_pos q
 obtain⟨rd,rm⟩:=rol p.s q
 obtain⟨-,rc, -, -⟩:=sch0 q
 have d0:=isDay_iff.1 (rd 0 (by omega))
 have e0:tD t 0=t.a5:=dV_zero
 have ds:=tD_day h0 p.s (show 0<tN t by omega)
 rw[e0]at ds
 have r0:toV C t.a5 t.a11=tR t C 0:=by unfold tR;rw[e0]
 simp only[InR]at hb
 have hk:0≤Int.tmod bk 1000∧Int.tmod bk 1000≤999:=by rw[Int.tmod_eq_emod_of_nonneg (by omega)];omega
 refine⟨by omega,irT (by omega),irT (by omega),fun hd=> ?_⟩
 generalize hday:(tR t C 0).1-Int.tmod bk 1000=day at hd⊢
 have hle:day≤(oL t C).fr:=by show day≤(tR t C 0).1;omega
 have hid:isDay day=true:=isDay_iff.2 (by omega)
 have hs:=seS_stay hle
 have ho:=ovS_stay hle (oL t C).nr
 have hmon:=chk_mon h0
 have eg:goL (oL t C) day=oL t C:=by unfold goL;rw[if_pos hid,if_pos hid,ho]
 have eo:owV (oL t C) day=0:=by unfold owV;rw[if_pos hid,hs];rfl
 obtain⟨b1,b2,b3⟩:=good_base p g
 refine⟨b1,b2,b3,py_okk p g (by decide) (show(0:Int)≤0∧(0:Int)≤1000000000000000 by decide) (show(0:Int)≤0∧(0:Int)≤100000000000000000 by decide),NDay.of ds,by rw[r0];exact rc 0 (by omega),by rw[r0],if_pos hid,eo, ?_,lnEq_of p eg rfl rfl rfl rfl,fun c=>⟨fun _=> ?_,fun c2=> ?_⟩,fun c=> ?_⟩
 ·unfold quV;rw[if_pos hid,hs]
  show W64 (0+t.a1)=t.a1
  rw[Int.zero_add];exact W64_in (by omega) (by omega)
 ·have he:pyE (oL t C) day 5≠0:=by unfold pyE;rw[if_neg (by rw[hid];decide),if_pos (show day<(oL t C).fr from c)];decide
  exact lnEq_of p (py_no he).1 rfl rfl rfl rfl
 ·exfalso
  have he:pyE (oL t C) day 5=4:=by unfold pyE;rw[if_neg (by rw[hid];decide),if_pos (show day<(oL t C).fr from c)]
  obtain⟨-,q2,q3,q4⟩:=py_no (L:=oL t C) (n:=day) (m:=5) (by rw[he];decide)
  rw[he,q2,q3,q4]at c2;cases c2
 ·have e2:day=(tR t C 0).1:=by omega
  have he:=py_e (L:=oL t C) (m:=5) hid (by show(tR t C 0).1≤day;omega) (by decide)
  refine⟨e2,he, ?_⟩
  rw[(py_val he).1,hs]
  rfl
end Go.Proofs.YtelidogcomffkaaGreatDoor
