/-
Rolled days (SchedRolls).
-/
import Derived.Test.YtgojmodiaffcbaaGreatDoorSm
import Derived.Test.YtgojmodiaffcbaaGreatDoorProg
import Derived.KernelRfl
set_option linter.unusedSectionVars false
set_option linter.unusedSimpArgs false
set_option linter.unusedVariables false
set_option maxRecDepth 100000
namespace Go.Proofs.YtgojmodiaffcbaaGreatDoor
open Go Go.Sx
variable [EnvT]
noncomputable def lRolls_h0 (t:Tms) (C:Cl) (x1:Int):SC:=
 ⟨[⟨4,slo 160 [(2, .ptr 2 0),(3, .ptr 3 0),(5,B true),(6, .ptr 8 0),(8,I (((plN t C):Nat):Int)),(9,I x1)],[.code (bodyAt Tryz.f4 [1,1,1,1,1,1,1,0,1,0,0]), .inLoop (bodyAt Tryz.f4 [1,1,1,1,1,1,1,0,1,0,0]), .inBlock 0, .code (bodyAt Tryz.f4 [1,1,1,1,1,1,1,1])],{}⟩],[some (.row false 83 C.nr 8 (fun i=>[I ((C.R i).kind),I ((C.R i).mon),I ((C.R i).day),I ((C.R i).k),I ((C.R i).off),I ((C.R i).sh),I ((C.R i).fr),I ((C.R i).to)])),some (.row false 3 C.nd 1 (fun i=>[I (C.D i)])),some (.box true [I t.a1,I t.a2,I t.a3,I t.a4,I t.a5,I t.a6,I t.a7,B (t.a8),B (t.a9),B (t.a10),I t.a11]),some (.box true [B (C.off 0),B (C.off 1),B (C.off 2),B (C.off 3),B (C.off 4),B (C.off 5),B (C.off 6), .sl 0 C.nr, .sl 1 C.nd]),some (.row true 3 (plN t C) 1 (fun i=>[I (tD t i)])),some (.row true 3 (plN t C) 1 (fun i=>[I ((tR t C i).1)])),some (.row true 48 (plN t C-1) 2 (fun i=>[I ((tP t C i).1),I ((tP t C i).2.1)])),some (.row true 3 (plK t C) 1 (fun i=>[I ((tQ t C i).1)])),some (.box true [.sl 4 (plN t C), .sl 5 (plN t C), .sl 6 (plN t C-1),B (plB t C),I (plE t C),I (plF t C), .sl 7 (plK t C)])]⟩
theorem lRolls_w0 {X:Cx} {t:Tms} {C:Cl} (hX:Fi X 4 (calH C) (B true) []) (H:((chk t.a1 t.a2 t.a3 t.a4 t.a5 t.a6 t.a7 t.a11)=0→((shP t C 60)=true→tSh t∧CalOk C∧((schE t C)≠0→(((plN t C):Nat):Int)=0∧((((plN t C-1):Nat):Int)==0)=true)∧((schE t C)=0→ ¬(((plN t C):Nat):Int)<2∧(((plN t C):Nat):Int)=(((plN t C):Nat):Int)∧Ir ((((plN t C):Nat):Int)-1)∧(((plN t C-1):Nat):Int)=((((plN t C):Nat):Int)-1)∧((0:Int)≤0∧0<(((plN t C):Nat):Int))∧(tD t 0)=t.a5∧((0:Int)≤((((plN t C):Nat):Int)-1)∧((((plN t C):Nat):Int)-1)<(((plN t C):Nat):Int))∧(tD t (((((plN t C):Nat):Int)-1).toNat))=t.a6∧Ok X (lRolls_h0 t C 0))))):
  Ok X (entry Tryz.prog 4 [.agg [I t.a1,I t.a2,I t.a3,I t.a4,I t.a5,I t.a6,I t.a7,B (t.a8),B (t.a9),B (t.a10),I t.a11], .agg [B (C.off 0),B (C.off 1),B (C.off 2),B (C.off 3),B (C.off 4),B (C.off 5),B (C.off 6), .sl 0 C.nr, .sl 1 C.nd]] (calH C)):=by
 refine hX.go [c_ [] shown17,c_ [] (rCheck t.a1 t.a2 t.a3 t.a4 t.a5 t.a6 t.a7 (t.a8) (t.a9) (t.a10) t.a11)] ?_
 by_cases h0:(chk t.a1 t.a2 t.a3 t.a4 t.a5 t.a6 t.a7 t.a11)=0
 ·have K1:=H h0
  refine hX.go [n_ 3 (f_ (bne_eq_false_iff_eq.2 h0)),c_ [0,1] (show S 10 [.agg [I t.a1,I t.a2,I t.a3,I t.a4,I t.a5,I t.a6,I t.a7,B (t.a8),B (t.a9),B (t.a10),I t.a11], .agg [B (C.off 0),B (C.off 1),B (C.off 2),B (C.off 3),B (C.off 4),B (C.off 5),B (C.off 6), .sl 0 C.nr, .sl 1 C.nd],I 60] (calH C) (B (shP t C 60)) []from rShort17 t (by decide)),f_ (bne_eq_false_iff_eq.2 h0),f_ (bne_eq_false_iff_eq.2 h0)] ?_
  rcases bcase (shP t C 60)with h1|h1
  ·obtain⟨h2,h3,L4,K4⟩:=K1 h1
   refine hX.go [f_ (nf h1),c_ [0,1] (show S 11 [.agg [I t.a1,I t.a2,I t.a3,I t.a4,I t.a5,I t.a6,I t.a7,B (t.a8),B (t.a9),B (t.a10),I t.a11], .agg [B (C.off 0),B (C.off 1),B (C.off 2),B (C.off 3),B (C.off 4),B (C.off 5),B (C.off 6), .sl 0 C.nr, .sl 1 C.nd]] (calH C) (.tup [.agg [.sl 2 (plN t C), .sl 3 (plN t C), .sl 4 (plN t C-1),B (plB t C),I (plE t C),I (plF t C), .sl 5 (plK t C)],I (schE t C)]) [some (.row true 3 (plN t C) 1 (fun i=>[I (tD t i)])),some (.row true 3 (plN t C) 1 (fun i=>[I ((tR t C i).1)])),some (.row true 48 (plN t C-1) 2 (fun i=>[I ((tP t C i).1),I ((tP t C i).2.1)])),some (.row true 3 (plK t C) 1 (fun i=>[I ((tQ t C i).1)]))]from sOf t h2 h3)] ?_
   by_cases h4:(schE t C)=0
   ·obtain⟨c5,K5⟩:=K4 h4
    refine hX.go [f_ (bne_eq_false_iff_eq.2 h4)] ?_
    by_cases h5:(((plN t C):Nat):Int)<2
    ·exact absurd h5 c5
    ·obtain⟨c6,K6⟩:=K5
     by_cases h6:(((plN t C):Nat):Int)=(((plN t C):Nat):Int)
     ·obtain⟨h7,c8,K8⟩:=K6
      by_cases h8:(((plN t C-1):Nat):Int)=((((plN t C):Nat):Int)-1)
      ·obtain⟨h9,c10,K10⟩:=K8
       by_cases h10:(tD t 0)=t.a5
       ·obtain⟨h11,c12,K12⟩:=K10
        refine hX.go [d_ 35,n_ 6 (f_ (df h5)),n_ 5 (f_ (bne_eq_false_iff_eq.2 h6)),q_ h7,f_ (bne_eq_false_iff_eq.2 h6),f_ (bne_eq_false_iff_eq.2 h6),n_ 3 (f_ (bne_eq_false_iff_eq.2 h8)),q_ h9,q_ (show(plN t C)=(plN t C)from rfl),f_ (bne_eq_false_iff_eq.2 h8),q_ h9,n_ 4 (f_ (bne_eq_false_iff_eq.2 h8)),n_ 4 (f_ (bne_eq_false_iff_eq.2 h10)),q_ h7,f_ (bne_eq_false_iff_eq.2 h10),q_ h11,q_ (show(plN t C)=(plN t C)from rfl),f_ (bne_eq_false_iff_eq.2 h10),q_ h11,n_ 4 (f_ (bne_eq_false_iff_eq.2 h10))] ?_
        by_cases h12:(tD t (((((plN t C):Nat):Int)-1).toNat))=t.a6
        ·have k:=K12
         exact hX.h 9 [f_ (bne_eq_false_iff_eq.2 h12)] (oldM 9) k
        ·exact absurd c12 h12
       ·exact absurd c10 h10
      ·exact absurd c8 h8
     ·exact absurd c6 h6
   ·obtain⟨c5,K5⟩:=L4 h4
    refine hX.go [t_ (bne_iff_ne.2 h4),n_ 3 (t_ rt)] ?_
    by_cases h5:(((plN t C):Nat):Int)=0
    ·have HE:=K5
     exact(hX.to (congrArg B HE).symm).e [n_ 10 (t_ (beq_iff_eq.2 h5))]
    ·exact absurd c5 h5
  ·exact hX.e [t_ (nt h1)]
 ·exact hX.e [n_ 5 (t_ (bne_iff_ne.2 h0)),t_ rt]
theorem lRolls_w1 {X:Cx} {t:Tms} {C:Cl} {x1:Int} (hX:Fi X 4 (calH C) (B true) []) (H:(x1<(((plN t C):Nat):Int)→((0:Int)≤x1∧x1<(((plN t C):Nat):Int))∧CalOk C∧NDay (tD t x1.toNat)∧((toV C (tD t x1.toNat) t.a11).2)=0∧((tR t C x1.toNat).1)=((toV C (tD t x1.toNat) t.a11).1)∧(x1>0→Ir (x1-1)∧((0:Int)≤(x1-1)∧(x1-1)<(((plN t C):Nat):Int))∧ ¬((tR t C x1.toNat).1)<((tR t C ((x1-1).toNat)).1)∧ ¬(tD t x1.toNat)≤(tD t ((x1-1).toNat))∧(t.a11≠0→(bizB C ((toV C (tD t x1.toNat) t.a11).1))=true∧Ir (x1+1)∧Ok X (lRolls_h0 t C (x1+1)))∧(t.a11=0→Ir (x1+1)∧Ok X (lRolls_h0 t C (x1+1))))∧(¬x1>0→(t.a11≠0→(bizB C ((toV C (tD t x1.toNat) t.a11).1))=true∧Ir (x1+1)∧Ok X (lRolls_h0 t C (x1+1)))∧(t.a11=0→Ir (x1+1)∧Ok X (lRolls_h0 t C (x1+1)))))):
  Ok X (lRolls_h0 t C x1):=by
 by_cases h0:x1<(((plN t C):Nat):Int)
 ·obtain⟨h1,h2,h3,c4,K4⟩:=H h0
  refine hX.go [t_ (dt h0),q_ h1,q_ (show(plN t C)=(plN t C)from rfl),q_ h1,d_ 13,c_ [0,1] (show S 15 [.agg [B (C.off 0),B (C.off 1),B (C.off 2),B (C.off 3),B (C.off 4),B (C.off 5),B (C.off 6), .sl 0 C.nr, .sl 1 C.nd],I (tD t x1.toNat),I t.a11] (calH C) (.tup [I ((toV C (tD t x1.toNat) t.a11).1),I ((toV C (tD t x1.toNat) t.a11).2)]) []from rTo h2 h3)] ?_
  by_cases h4:((toV C (tD t x1.toNat) t.a11).2)=0
  ·obtain⟨c5,K5⟩:=K4
   by_cases h5:((tR t C x1.toNat).1)=((toV C (tD t x1.toNat) t.a11).1)
   ·obtain⟨L6,K6⟩:=K5
    by_cases h6:x1>0
    ·obtain⟨h7,h8,c9,K9⟩:=L6 h6
     by_cases h9:((tR t C x1.toNat).1)<((tR t C ((x1-1).toNat)).1)
     ·exact absurd h9 c9
     ·obtain⟨c10,K10⟩:=K9
      by_cases h10:(tD t x1.toNat)≤(tD t ((x1-1).toNat))
      ·exact absurd h10 c10
      ·obtain⟨L11,K11⟩:=K10
       by_cases h11:t.a11=0
       ·obtain⟨h12,k⟩:=K11 h11
        exact hX.h 15 [d_ 50,n_ 4 (f_ (bne_eq_false_iff_eq.2 h4)),q_ h1,q_ (show(plN t C)=(plN t C)from rfl),f_ (bne_eq_false_iff_eq.2 h4),q_ h1,n_ 3 (f_ (bne_eq_false_iff_eq.2 h4)),n_ 3 (f_ (bne_eq_false_iff_eq.2 h5)),n_ 4 (t_ (dt h6)),q_ h1,q_ (show(plN t C)=(plN t C)from rfl),t_ (dt h6),q_ h1,n_ 4 (t_ (dt h6)),q_ h7,t_ (dt h6),q_ h8,q_ (show(plN t C)=(plN t C)from rfl),t_ (dt h6),q_ h8,t_ (dt h6),t_ (dt h6),n_ 4 (f_ (df h9)),q_ h1,q_ (show(plN t C)=(plN t C)from rfl),f_ (df h9),q_ h1,n_ 4 (f_ (df h9)),q_ h7,f_ (df h9),q_ h8,q_ (show(plN t C)=(plN t C)from rfl),f_ (df h9),q_ h8,f_ (df h9),t_ (dt h6),f_ (df h9),f_ (bne_eq_false_iff_eq.2 h5),t_ (dt h6),f_ (bne_eq_false_iff_eq.2 h5),n_ 4 (f_ (df h10)),n_ 4 (f_ (bne_eq_false_iff_eq.2 h11)),f_ (df h10),f_ (bne_eq_false_iff_eq.2 h11),f_ (df h10),f_ rf,q_ h12] (oldM 9) k
       ·obtain⟨c12,K12⟩:=L11 h11
        refine hX.go [d_ 50,n_ 4 (f_ (bne_eq_false_iff_eq.2 h4)),q_ h1,q_ (show(plN t C)=(plN t C)from rfl),f_ (bne_eq_false_iff_eq.2 h4),q_ h1,n_ 3 (f_ (bne_eq_false_iff_eq.2 h4)),n_ 3 (f_ (bne_eq_false_iff_eq.2 h5)),n_ 4 (t_ (dt h6)),q_ h1,q_ (show(plN t C)=(plN t C)from rfl),t_ (dt h6),q_ h1,n_ 4 (t_ (dt h6)),q_ h7,t_ (dt h6),q_ h8,q_ (show(plN t C)=(plN t C)from rfl),t_ (dt h6),q_ h8,t_ (dt h6),t_ (dt h6),n_ 4 (f_ (df h9)),q_ h1,q_ (show(plN t C)=(plN t C)from rfl),f_ (df h9),q_ h1,n_ 4 (f_ (df h9)),q_ h7,f_ (df h9),q_ h8,q_ (show(plN t C)=(plN t C)from rfl),f_ (df h9),q_ h8,f_ (df h9),t_ (dt h6),f_ (df h9),f_ (bne_eq_false_iff_eq.2 h5),t_ (dt h6),f_ (bne_eq_false_iff_eq.2 h5),n_ 4 (f_ (df h10)),n_ 3 (t_ (bne_iff_ne.2 h11)),c_ [0,1] (show S 16 [.agg [B (C.off 0),B (C.off 1),B (C.off 2),B (C.off 3),B (C.off 4),B (C.off 5),B (C.off 6), .sl 0 C.nr, .sl 1 C.nd],I ((toV C (tD t x1.toNat) t.a11).1)] (calH C) (B (bizB C ((toV C (tD t x1.toNat) t.a11).1))) []from refIs h2),t_ (bne_iff_ne.2 h11),f_ (df h10),t_ (bne_iff_ne.2 h11),f_ (df h10)] ?_
        rcases bcase (bizB C ((toV C (tD t x1.toNat) t.a11).1))with h12|h12
        ·obtain⟨h13,k⟩:=K12
         exact hX.h 9 [f_ (nf h12),q_ h13] (oldM 9) k
        ·exact Go.Sx.nob c12 h12
    ·obtain⟨L7,K7⟩:=K6 h6
     by_cases h7:t.a11=0
     ·obtain⟨h8,k⟩:=K7 h7
      exact hX.h 15 [d_ 50,n_ 4 (f_ (bne_eq_false_iff_eq.2 h4)),q_ h1,q_ (show(plN t C)=(plN t C)from rfl),f_ (bne_eq_false_iff_eq.2 h4),q_ h1,n_ 3 (f_ (bne_eq_false_iff_eq.2 h4)),n_ 3 (f_ (bne_eq_false_iff_eq.2 h5)),n_ 14 (f_ (df h6)),f_ (bne_eq_false_iff_eq.2 h5),f_ (df h6),f_ (bne_eq_false_iff_eq.2 h5),n_ 4 (f_ rf),n_ 4 (f_ (bne_eq_false_iff_eq.2 h7)),f_ rf,f_ (bne_eq_false_iff_eq.2 h7),f_ rf,f_ rf,q_ h8] (oldM 9) k
     ·obtain⟨c8,K8⟩:=L7 h7
      refine hX.go [d_ 50,n_ 4 (f_ (bne_eq_false_iff_eq.2 h4)),q_ h1,q_ (show(plN t C)=(plN t C)from rfl),f_ (bne_eq_false_iff_eq.2 h4),q_ h1,n_ 3 (f_ (bne_eq_false_iff_eq.2 h4)),n_ 3 (f_ (bne_eq_false_iff_eq.2 h5)),n_ 14 (f_ (df h6)),f_ (bne_eq_false_iff_eq.2 h5),f_ (df h6),f_ (bne_eq_false_iff_eq.2 h5),n_ 4 (f_ rf),n_ 3 (t_ (bne_iff_ne.2 h7)),c_ [0,1] (show S 16 [.agg [B (C.off 0),B (C.off 1),B (C.off 2),B (C.off 3),B (C.off 4),B (C.off 5),B (C.off 6), .sl 0 C.nr, .sl 1 C.nd],I ((toV C (tD t x1.toNat) t.a11).1)] (calH C) (B (bizB C ((toV C (tD t x1.toNat) t.a11).1))) []from refIs h2),t_ (bne_iff_ne.2 h7),f_ rf,t_ (bne_iff_ne.2 h7),f_ rf] ?_
      rcases bcase (bizB C ((toV C (tD t x1.toNat) t.a11).1))with h8|h8
      ·obtain⟨h9,k⟩:=K8
       exact hX.h 9 [f_ (nf h8),q_ h9] (oldM 9) k
      ·exact Go.Sx.nob c8 h8
   ·exact absurd c5 h5
  ·exact absurd c4 h4
 ·exact hX.e [f_ (df h0)]
theorem lRolls_loop {X:Cx} {t:Tms} {C:Cl} (hX:Fi X 4 (calH C) (B true) []) (hs:tSh t) (hC:CalOk C) (h:schE t C=0):
  ∀ (f j:Nat),tN t=j+f→Ok X (lRolls_h0 t C j):=by
 intro f
 have p:plN t C=tN t:=if_pos h
 obtain⟨c,r, -, -⟩:=sch0 h
 have hn:=tN_le c hs
 induction f with
 |zero=>exact fun j hj=>lRolls_w1 hX fun q=>absurd q (by omega)
 |succ f ih=>
  intro j hj
  have d:=tD_day c hs (i:=j) (by omega)
  have k:Ok X (lRolls_h0 t C ((j:Int)+1)):=ih (j+1) (by omega)
  have rj:=r j (by omega)
  refine lRolls_w1 hX fun q=> ?_
  rw[Int.toNat_natCast,show((j:Int)-1).toNat=j-1 by omega]
  refine⟨by omega,hC,NDay.of d,rj,rfl,fun q0=> ?_,fun q0=> ?_⟩
  ·have d':=tD_day c hs (i:=j-1) (by omega)
   have ri:=tD_rise c hs (i:=j-1) (by omega)
   rw[show j-1+1=j by omega]at ri
   have mo:(tR t C (j-1)).1≤(tR t C j).1:=toV_mono d' d (by omega) (r (j-1) (by omega)) rj
   exact⟨irT (by omega),by omega,by omega,by omega,fun q=>⟨toV_biz q rj,irT (by omega),k⟩,fun _=>⟨irT (by omega),k⟩⟩
  ·exact⟨fun q=>⟨toV_biz q rj,irT (by omega),k⟩,fun _=>⟨irT (by omega),k⟩⟩
theorem lRolls (t:Tms) (C:Cl):S 4 [tmL t,calL C] (calH C) (B true) []:=by
 refine SCall.st fun X hX=> ?_
 refine lRolls_w0 hX fun(h0:tCk t=0) h=> ?_
 have hm:=shP_t h (by decide)
 have hs:=hm.2.1
 refine⟨hs,hm.1,fun q=> ?_,fun q=> ?_⟩
 ·rw[show plN t C=0 from if_neg q];exact⟨rfl,rfl⟩
 ·have p:plN t C=tN t:=if_pos q
  have hn:=tN_le h0 hs
  have e1:tD t 0=t.a5:=dV_zero
  have e2:tD t (tN t-1)=t.a6:=by rw[tN_eq h0];exact dV_last
  rw[show((((plN t C):Nat):Int)-1).toNat=tN t-1 by omega]
  exact⟨by omega,rfl,irT (by omega),by omega,by omega,e1,by omega,e2,lRolls_loop hX hs hm.1 q (tN t) 0 (by omega)⟩
end Go.Proofs.YtgojmodiaffcbaaGreatDoor
