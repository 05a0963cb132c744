/-
Parts add up (SchedSums).
-/
import Derived.Test.YtgojmodiaffcbaaGreatDoorOp
import Derived.Test.YtgojmodiaffcbaaGreatDoorProg
import Derived.KernelRfl
set_option linter.unusedSectionVars false
set_option linter.unusedSimpArgs false
set_option linter.unusedVariables false
set_option maxRecDepth 100000
namespace Go.Proofs.YtgojmodiaffcbaaGreatDoor
open Go Go.Sx
variable [EnvT]
noncomputable def lSums_h0 (t:Tms) (C:Cl) (x1:Int) (x2:Int) (x3:Int):SC:=
 ⟨[⟨5,slo 139 [(2, .ptr 2 0),(5,B true),(6, .ptr 8 0),(8,I (((plN t C):Nat):Int)),(9, .ptr 9 0),(10,I x1)],[.code (bodyAt Tryz.f5 [1,1,1,1,1,1,1,1,0,1,0,0]), .inLoop (bodyAt Tryz.f5 [1,1,1,1,1,1,1,1,0,1,0,0]), .inBlock 0, .code (bodyAt Tryz.f5 [1,1,1,1,1,1,1,1,1])],{}⟩],[some (.row false 83 C.nr 8 (fun i=>[I ((C.R i).kind),I ((C.R i).mon),I ((C.R i).day),I ((C.R i).k),I ((C.R i).off),I ((C.R i).sh),I ((C.R i).fr),I ((C.R i).to)])),some (.row false 3 C.nd 1 (fun i=>[I (C.D i)])),some (.box true [I t.a1,I t.a2,I t.a3,I t.a4,I t.a5,I t.a6,I t.a7,B (t.a8),B (t.a9),B (t.a10),I t.a11]),none,some (.row true 3 (plN t C) 1 (fun i=>[I (tD t i)])),some (.row true 3 (plN t C) 1 (fun i=>[I ((tR t C i).1)])),some (.row true 48 (plN t C-1) 2 (fun i=>[I ((tP t C i).1),I ((tP t C i).2.1)])),some (.row true 3 (plK t C) 1 (fun i=>[I ((tQ t C i).1)])),some (.box true [.sl 4 (plN t C), .sl 5 (plN t C), .sl 6 (plN t C-1),B (plB t C),I (plE t C),I (plF t C), .sl 7 (plK t C)]),some (.box true [I x2,I x3])]⟩
noncomputable def lSums_h1 (t:Tms) (C:Cl) (x1:Int):SC:=
 ⟨[⟨5,slo 139 [(2, .ptr 2 0),(5,B true),(6, .ptr 8 0),(8,I (((plN t C):Nat):Int)),(15,I x1)],[.code (bodyAt Tryz.f5 [1,1,1,1,1,1,1,1,1,1,1,1,0,1,0,0]), .inLoop (bodyAt Tryz.f5 [1,1,1,1,1,1,1,1,1,1,1,1,0,1,0,0]), .inBlock 2, .code (bodyAt Tryz.f5 [1,1,1,1,1,1,1,1,1,1,1,1,1])],{}⟩],[some (.row false 83 C.nr 8 (fun i=>[I ((C.R i).kind),I ((C.R i).mon),I ((C.R i).day),I ((C.R i).k),I ((C.R i).off),I ((C.R i).sh),I ((C.R i).fr),I ((C.R i).to)])),some (.row false 3 C.nd 1 (fun i=>[I (C.D i)])),some (.box true [I t.a1,I t.a2,I t.a3,I t.a4,I t.a5,I t.a6,I t.a7,B (t.a8),B (t.a9),B (t.a10),I t.a11]),none,some (.row true 3 (plN t C) 1 (fun i=>[I (tD t i)])),some (.row true 3 (plN t C) 1 (fun i=>[I ((tR t C i).1)])),some (.row true 48 (plN t C-1) 2 (fun i=>[I ((tP t C i).1),I ((tP t C i).2.1)])),some (.row true 3 (plK t C) 1 (fun i=>[I ((tQ t C i).1)])),some (.box true [.sl 4 (plN t C), .sl 5 (plN t C), .sl 6 (plN t C-1),B (plB t C),I (plE t C),I (plF t C), .sl 7 (plK t C)])]⟩
theorem lSums_w0 {X:Cx} {t:Tms} {C:Cl} (hX:Fi X 5 (calH C) (B true) []) (H:((chk t.a1 t.a2 t.a3 t.a4 t.a5 t.a6 t.a7 t.a11)=0→((shP t C 60)=true→(¬t.a4<3→tSh t∧CalOk C∧((schE t C)=0→ ¬(((plN t C):Nat):Int)<2∧Ir ((((plN t C):Nat):Int)-1)∧(((plN t C-1):Nat):Int)=((((plN t C):Nat):Int)-1)∧Ok X (lSums_h0 t C 0 0 1)))))):
  Ok X (entry Tryz.prog 5 [.agg [I t.a1,I t.a2,I t.a3,I t.a4,I t.a5,I t.a6,I t.a7,B (t.a8),B (t.a9),B (t.a10),I t.a11], .agg [B (C.off 0),B (C.off 1),B (C.off 2),B (C.off 3),B (C.off 4),B (C.off 5),B (C.off 6), .sl 0 C.nr, .sl 1 C.nd]] (calH C)):=by
 refine hX.go [c_ [] shown17,c_ [] (rCheck t.a1 t.a2 t.a3 t.a4 t.a5 t.a6 t.a7 (t.a8) (t.a9) (t.a10) t.a11)] ?_
 by_cases h0:(chk t.a1 t.a2 t.a3 t.a4 t.a5 t.a6 t.a7 t.a11)=0
 ·have K1:=H h0
  refine hX.go [n_ 3 (f_ (bne_eq_false_iff_eq.2 h0)),c_ [0,1] (show S 10 [.agg [I t.a1,I t.a2,I t.a3,I t.a4,I t.a5,I t.a6,I t.a7,B (t.a8),B (t.a9),B (t.a10),I t.a11], .agg [B (C.off 0),B (C.off 1),B (C.off 2),B (C.off 3),B (C.off 4),B (C.off 5),B (C.off 6), .sl 0 C.nr, .sl 1 C.nd],I 60] (calH C) (B (shP t C 60)) []from rShort17 t (by decide)),f_ (bne_eq_false_iff_eq.2 h0),f_ (bne_eq_false_iff_eq.2 h0)] ?_
  rcases bcase (shP t C 60)with h1|h1
  ·have K2:=K1 h1
   refine hX.go [n_ 4 (f_ (nf h1))] ?_
   by_cases h2:t.a4<3
   ·exact hX.e [t_ (dt h2)]
   ·obtain⟨h3,h4,K5⟩:=K2 h2
    refine hX.go [f_ (df h2),c_ [0,1] (show S 11 [.agg [I t.a1,I t.a2,I t.a3,I t.a4,I t.a5,I t.a6,I t.a7,B (t.a8),B (t.a9),B (t.a10),I t.a11], .agg [B (C.off 0),B (C.off 1),B (C.off 2),B (C.off 3),B (C.off 4),B (C.off 5),B (C.off 6), .sl 0 C.nr, .sl 1 C.nd]] (calH C) (.tup [.agg [.sl 2 (plN t C), .sl 3 (plN t C), .sl 4 (plN t C-1),B (plB t C),I (plE t C),I (plF t C), .sl 5 (plK t C)],I (schE t C)]) [some (.row true 3 (plN t C) 1 (fun i=>[I (tD t i)])),some (.row true 3 (plN t C) 1 (fun i=>[I ((tR t C i).1)])),some (.row true 48 (plN t C-1) 2 (fun i=>[I ((tP t C i).1),I ((tP t C i).2.1)])),some (.row true 3 (plK t C) 1 (fun i=>[I ((tQ t C i).1)]))]from sOf t h3 h4)] ?_
    by_cases h5:(schE t C)=0
    ·obtain⟨c6,K6⟩:=K5 h5
     refine hX.go [f_ (bne_eq_false_iff_eq.2 h5)] ?_
     by_cases h6:(((plN t C):Nat):Int)<2
     ·exact absurd h6 c6
     ·obtain⟨h7,c8,K8⟩:=K6
      refine hX.go [n_ 5 (f_ (df h6)),q_ h7,f_ (df h6),f_ (df h6)] ?_
      by_cases h8:(((plN t C-1):Nat):Int)=((((plN t C):Nat):Int)-1)
      ·have k:=K8
       exact hX.h 15 [f_ (bne_eq_false_iff_eq.2 h8)] [.old 0, .old 1, .old 2, .old 1003, .old 4, .old 5, .old 6, .old 7, .old 8, .old 9] k
      ·exact absurd c8 h8
    ·exact hX.e [t_ (bne_iff_ne.2 h5)]
  ·exact hX.e [n_ 4 (t_ (nt h1)),t_ rt]
 ·exact hX.e [n_ 5 (t_ (bne_iff_ne.2 h0)),n_ 5 (t_ rt)]
theorem lSums_w1 {X:Cx} {t:Tms} {C:Cl} {x1 x2 x3:Int} (hX:Fi X 5 (calH C) (B true) []) (H:Ir ((((plN t C):Nat):Int)-1)∧(x1<((((plN t C):Nat):Int)-1)→((0:Int)≤x1∧x1<(((plN t C-1):Nat):Int))∧(rightB ((tP t C x1.toNat).1) ((tP t C x1.toNat).2.1))=true∧ ∃ r5004:Int, ∃ r5005:Int, ∃ r5006:Int,S 18 [.agg [I x2,I x3], .agg [I ((tP t C x1.toNat).1),I ((tP t C x1.toNat).2.1)]] [] (.tup [.agg [I r5004,I r5005],I r5006]) []∧Ir (x1+1)∧Ok X (lSums_h0 t C (x1+1) r5004 r5005))∧(¬x1<((((plN t C):Nat):Int)-1)→((0:Int)≤0∧0<(((plN t C):Nat):Int))∧((0:Int)≤((((plN t C):Nat):Int)-1)∧((((plN t C):Nat):Int)-1)<(((plN t C):Nat):Int))∧((partC t.a4 ((tR t C 0).1) ((tR t C (((((plN t C):Nat):Int)-1).toNat)).1) (plB t C) (plE t C) (plF t C) (plK t C) (fun i=>(tQ t C i).1)).2.2)=0∧((x2==((partC t.a4 ((tR t C 0).1) ((tR t C (((((plN t C):Nat):Int)-1).toNat)).1) (plB t C) (plE t C) (plF t C) (plK t C) (fun i=>(tQ t C i).1)).1))&&((x3==((partC t.a4 ((tR t C 0).1) ((tR t C (((((plN t C):Nat):Int)-1).toNat)).1) (plB t C) (plE t C) (plF t C) (plK t C) (fun i=>(tQ t C i).1)).2.1))&&true))=true∧(t.a4=6→Ok X (lSums_h1 t C 1)))):
  Ok X (lSums_h0 t C x1 x2 x3):=by
 obtain⟨h0,L1,K1⟩:=H
 refine hX.go [q_ h0] ?_
 by_cases h1:x1<((((plN t C):Nat):Int)-1)
 ·obtain⟨h2,c3,K3⟩:=L1 h1
  refine hX.go [t_ (dt h1),q_ h2,q_ (show(plN t C-1)=(plN t C-1)from rfl),q_ h2,c_ [] (show S 17 [.agg [I ((tP t C x1.toNat).1),I ((tP t C x1.toNat).2.1)]] [] (B (rightB ((tP t C x1.toNat).1) ((tP t C x1.toNat).2.1))) []from rRight _ _)] ?_
  rcases bcase (rightB ((tP t C x1.toNat).1) ((tP t C x1.toNat).2.1))with h3|h3
  ·obtain⟨r5004,r5005,r5006,h4,h5,k⟩:=K3
   exact hX.h 17 [f_ (nf h3),q_ h2,q_ (show(plN t C-1)=(plN t C-1)from rfl),q_ h2,h_ [.draw 11 [9] 1],c_ [] h4,q_ (re (I r5006)),q_ (re (I r5006)),q_ h5] [.old 0, .old 1, .old 2, .old 1003, .old 4, .old 5, .old 6, .old 7, .old 8, .old 9] k
  ·exact Go.Sx.nob c3 h3
 ·obtain⟨h2,h3,c4,K4⟩:=K1 h1
  refine hX.go [f_ (df h1),q_ h2,q_ (show(plN t C)=(plN t C)from rfl),q_ h2,q_ h0,q_ h3,q_ (show(plN t C)=(plN t C)from rfl),q_ h3,h_ [.draw 19 [17] 1],c_ [7] (show S 19 [I t.a4,I ((tR t C 0).1),I ((tR t C (((((plN t C):Nat):Int)-1).toNat)).1), .agg [B (plB t C),I (plE t C),I (plF t C), .sl 0 (plK t C)]] [some (.row false 3 (plK t C) 1 (fun i=>[I ((tQ t C i).1)]))] (RT (partC t.a4 ((tR t C 0).1) ((tR t C (((((plN t C):Nat):Int)-1).toNat)).1) (plB t C) (plE t C) (plF t C) (plK t C) (fun i=>(tQ t C i).1))) []from rPart _ _ _),q_ (show(I ((partC t.a4 ((tR t C 0).1) ((tR t C (((((plN t C):Nat):Int)-1).toNat)).1) (plB t C) (plE t C) (plF t C) (plK t C) (fun i=>(tQ t C i).1)).2.2):SV)=I ((partC t.a4 ((tR t C 0).1) ((tR t C (((((plN t C):Nat):Int)-1).toNat)).1) (plB t C) (plE t C) (plF t C) (plK t C) (fun i=>(tQ t C i).1)).2.2)from rfl),q_ (show(I ((partC t.a4 ((tR t C 0).1) ((tR t C (((((plN t C):Nat):Int)-1).toNat)).1) (plB t C) (plE t C) (plF t C) (plK t C) (fun i=>(tQ t C i).1)).2.2):SV)=I ((partC t.a4 ((tR t C 0).1) ((tR t C (((((plN t C):Nat):Int)-1).toNat)).1) (plB t C) (plE t C) (plF t C) (plK t C) (fun i=>(tQ t C i).1)).2.2)from rfl)] ?_
  by_cases h4:((partC t.a4 ((tR t C 0).1) ((tR t C (((((plN t C):Nat):Int)-1).toNat)).1) (plB t C) (plE t C) (plF t C) (plK t C) (fun i=>(tQ t C i).1)).2.2)=0
  ·obtain⟨c5,K5⟩:=K4
   refine hX.go [n_ 4 (f_ (bne_eq_false_iff_eq.2 h4))] ?_
   rcases bcase ((x2==((partC t.a4 ((tR t C 0).1) ((tR t C (((((plN t C):Nat):Int)-1).toNat)).1) (plB t C) (plE t C) (plF t C) (plK t C) (fun i=>(tQ t C i).1)).1))&&((x3==((partC t.a4 ((tR t C 0).1) ((tR t C (((((plN t C):Nat):Int)-1).toNat)).1) (plB t C) (plE t C) (plF t C) (plK t C) (fun i=>(tQ t C i).1)).2.1))&&true))with h5|h5
   ·refine hX.go [f_ (nf h5)] ?_
    by_cases h6:t.a4=6
    ·have k:=K5 h6
     exact hX.h 9 [f_ (bne_eq_false_iff_eq.2 h6)] [.old 0, .old 1, .old 2, .old 1003, .old 4, .old 5, .old 6, .old 7, .old 8] k
    ·exact hX.e [t_ (bne_iff_ne.2 h6)]
   ·exact Go.Sx.nob c5 h5
  ·exact absurd c4 h4
theorem lSums_w2 {X:Cx} {t:Tms} {C:Cl} {x1:Int} (hX:Fi X 5 (calH C) (B true) []) (H:Ir ((((plN t C):Nat):Int)-2)∧(x1<((((plN t C):Nat):Int)-2)→((0:Int)≤x1∧x1<(((plN t C):Nat):Int))∧Ir (x1+1)∧((0:Int)≤(x1+1)∧(x1+1)<(((plN t C):Nat):Int))∧(((tR t C x1.toNat).1)<((tR t C ((x1+1).toNat)).1)→((0:Int)≤x1∧x1<(((plN t C-1):Nat):Int))∧(0:Int)<t.a7∧Ir (12/t.a7)∧((((tP t C x1.toNat).1)==1)&&((((tP t C x1.toNat).2.1)==(12/t.a7))&&true))=true∧Ok X (lSums_h1 t C (x1+1)))∧(¬((tR t C x1.toNat).1)<((tR t C ((x1+1).toNat)).1)→Ok X (lSums_h1 t C (x1+1))))):
  Ok X (lSums_h1 t C x1):=by
 obtain⟨h0,K1⟩:=H
 refine hX.go [q_ h0] ?_
 by_cases h1:x1<((((plN t C):Nat):Int)-2)
 ·obtain⟨h2,h3,h4,L5,K5⟩:=K1 h1
  refine hX.go [t_ (dt h1)] ?_
  by_cases h5:((tR t C x1.toNat).1)<((tR t C ((x1+1).toNat)).1)
  ·obtain⟨h6,h7,h8,c9,K9⟩:=L5 h5
   refine hX.go [q_ h2,q_ (show(plN t C)=(plN t C)from rfl),q_ h2,q_ h3,q_ h4,q_ (show(plN t C)=(plN t C)from rfl),q_ h4,d_ 22,n_ 4 (t_ (dt h5)),q_ h6,q_ (show(plN t C-1)=(plN t C-1)from rfl),t_ (dt h5),q_ h6,n_ 3 (t_ (dt h5)),q_ (show(0:Int)≤12 from by decide),q_ h7,q_ h8,n_ 3 (t_ (dt h5))] ?_
   rcases bcase ((((tP t C x1.toNat).1)==1)&&((((tP t C x1.toNat).2.1)==(12/t.a7))&&true))with h9|h9
   ·have k:=K9
    exact hX.h 9 [f_ (nf h9),q_ h3] [.old 0, .old 1, .old 2, .old 1003, .old 4, .old 5, .old 6, .old 7, .old 8] k
   ·exact Go.Sx.nob c9 h9
  ·have k:=K5 h5
   exact hX.h 13 [q_ h2,q_ (show(plN t C)=(plN t C)from rfl),q_ h2,q_ h3,q_ h4,q_ (show(plN t C)=(plN t C)from rfl),q_ h4,d_ 22,n_ 11 (f_ (df h5)),f_ rf,q_ h3] [.old 0, .old 1, .old 2, .old 1003, .old 4, .old 5, .old 6, .old 7, .old 8] k
 ·exact hX.e [f_ (df h1)]
noncomputable def sQ (t:Tms) (C:Cl) (j:Nat):Int×Int×Int:=partC t.a4 (tR t C 0).1 (tR t C j).1 t.a10 (tE t C) (frq t.a7) (tK t) (fun i=>(tQ t C i).1)
theorem sQ_0 {t:Tms} {C:Cl} (hs:tSh t) (h3:3≤t.a4) (h:schE t C=0):sQ t C 0=(0,1,0):=by
 obtain⟨c,r, -,s⟩:=sch0 h
 obtain⟨rd,rm⟩:=rol hs h
 have hn:=tN_le c hs
 have hk:=chk_cnt c
 refine part_0 (by omega) (rd 0 (by omega)) fun h6=> ?_
 have s0:=s 0 (by omega)
 unfold tP at s0
 rw[h6]at s0
 obtain⟨m,l1,l2, -⟩:=part6_q (rd 0 (by omega)) (rd 1 (by omega)) (rm 0 1 (by omega) (by omega)) s0
 exact⟨m,l1,Int.le_trans (rm 0 1 (by omega) (by omega)) l2⟩
theorem sQ_s {t:Tms} {C:Cl} (hs:tSh t) (h3:3≤t.a4) (h:schE t C=0) {j:Nat} (hj:j<tN t-1) (q:(sQ t C j).2.2=0):
  (sQ t C (j+1)).2.2=0∧S 18 [.agg [I (sQ t C j).1,I (sQ t C j).2.1], .agg [I (tP t C j).1,I (tP t C j).2.1]] [] (RT (sQ t C (j+1))) []:=by
 obtain⟨c,r, -,s⟩:=sch0 h
 obtain⟨rd,rm⟩:=rol hs h
 have hk:=chk_cnt c
 exact part_add (by omega) (rd 0 (by omega)) (rd j (by omega)) (rd (j+1) (by omega)) (rm 0 j (by omega) (by omega)) (rm j (j+1) (by omega) (by omega)) q (s j hj)
theorem whole1 {t:Tms} {C:Cl} (hs:tSh t) (h6:t.a4=6) (h:schE t C=0) {j:Nat} (h1:1≤j) (hj:j<tN t-2) (hl:(tR t C j).1<(tR t C (j+1)).1):
  (tP t C j).1=1∧(tP t C j).2.1=12/t.a7:=by
 obtain⟨c,r, -,s⟩:=sch0 h
 obtain⟨rd,rm⟩:=rol hs h
 have hL:=tCk_loan c
 have hN:=tN_eq c
 have hG:=tG_eq c
 have hm:=mN_le (back:=t.a8) (eom:=t.a10) hL (hs c)
 have hd:=dM_le (s:=t.a5) (e:=t.a6) (mo:=t.a7) (long:=t.a9) (back:=t.a8) (eom:=t.a10)
 have hK:tK t=tG t:=if_pos h6
 have sj:=s j (by omega)
 unfold tP at sj⊢
 rw[h6]at sj⊢
 obtain⟨m,l1,l2,e⟩:=part6_q (rd j (by omega)) (rd (j+1) (by omega)) (rm j (j+1) (by omega) (by omega)) sj
 rw[e]
 obtain⟨m1,m2,m3,m4,m5,m6,m7⟩:=may_facts m
 obtain⟨o,ho,e1,e2⟩: ∃ o:Nat,o+1<tG t∧(tR t C j).1=(tQ t C o).1∧(tR t C (j+1)).1=(tQ t C (o+1)).1:=by
  refine⟨dO t.a5 t.a6 t.a7 t.a9 t.a8 t.a10+(j-1), ?_, ?_, ?_⟩
  ·rw[hG];unfold dO;split<;>omega
  ·show(toV C (tD t j) t.a11).1=(toV C (tV t _) t.a11).1
   rw[show tD t j=tV t _ from dV_in h1 (by omega)]
  ·show(toV C (tD t (j+1)) t.a11).1=(toV C (tV t _) t.a11).1
   rw[show tD t (j+1)=tV t _ from dV_in (by omega) (by omega)]
   rw[show j+1-1=j-1+1 by omega];rfl
 rw[e1,e2]at hl⊢
 rw[hK]at m6⊢
 rw[psum_one (g:=fun i=>(tQ t C i).1) (N:=tG t-1) m6 (by omega) hl (tG t-1) (Nat.le_refl _),if_neg (by omega)]
 obtain⟨w1,w2⟩:=oneW (n:=(tQ t C (o+1)).1-(tQ t C o).1) (k:=frq t.a7) (by omega) m3
 refine⟨w1,w2.trans ?_⟩
 have a1:=hL.m1
 have a2:=hL.m2
 unfold frq at m3⊢
 have:t.a7=1∨t.a7=2∨t.a7=3∨t.a7=4∨t.a7=6∨t.a7=12:=by(repeat' split at m3)<;>omega
 rcases this with z|z|z|z|z|z<;>rw[z]<;>rfl
theorem lSums_2 {X:Cx} {t:Tms} {C:Cl} (hX:Fi X 5 (calH C) (B true) []) (hs:tSh t) (h6:t.a4=6) (h:schE t C=0):
  ∀ (f j:Nat),1≤j→tN t≤j+f→Ok X (lSums_h1 t C j):=by
 intro f
 have p:plN t C=tN t:=if_pos h
 have c:=schE_ck h
 have hn:=tN_le c hs
 induction f with
 |zero=>exact fun j h1 hj=>lSums_w2 hX ⟨irT (by omega),fun q=>absurd q (by omega)⟩
 |succ f ih=>
  intro j h1 hj
  have k:Ok X (lSums_h1 t C ((j:Int)+1)):=ih (j+1) (by omega) (by omega)
  refine lSums_w2 hX ⟨irT (by omega),fun q=> ?_⟩
  rw[Int.toNat_natCast,show((j:Int)+1).toNat=j+1 by omega]
  refine⟨by omega,irT (by omega),by omega,fun hl=> ?_,fun _=>k⟩
  obtain⟨w1,w2⟩:=whole1 hs h6 h h1 (by omega) hl
  have hL:=tCk_loan c
  have a1:=hL.m1
  have a2:=hL.m2
  have:0≤12/t.a7∧12/t.a7≤12:=⟨Int.ediv_nonneg (by decide) (by omega),Int.ediv_le_self _ (by decide)⟩
  exact⟨by omega,by omega,irT (by omega),by rw[w1,w2];simp,k⟩
theorem lSums_1 {X:Cx} {t:Tms} {C:Cl} (hX:Fi X 5 (calH C) (B true) []) (hs:tSh t) (h3:3≤t.a4) (h:schE t C=0):
  ∀ (f j:Nat),tN t-1=j+f→(sQ t C j).2.2=0→Ok X (lSums_h0 t C j (sQ t C j).1 (sQ t C j).2.1):=by
 intro f
 have p:plN t C=tN t:=if_pos h
 have c:=schE_ck h
 have hn:=tN_le c hs
 obtain⟨rd,rm⟩:=rol hs h
 obtain⟨-, -, -,s⟩:=sch0 h
 have hk:=chk_cnt c
 induction f with
 |zero=>
  intro j hj q
  refine lSums_w1 hX ⟨irT (by omega),fun q=>absurd q (by omega),fun _=> ?_⟩
  rw[show((((plN t C):Nat):Int)-1).toNat=j by omega,show plB t C=t.a10 from if_pos h,show plE t C=tE t C from if_pos h,show plF t C=frq t.a7 from if_pos h,show plK t C=tK t from if_pos h]
  exact⟨by omega,by omega,q,by show((sQ t C j).1==(sQ t C j).1&&_)=true;simp[sQ],fun h6=>lSums_2 hX hs h6 h (tN t) 1 (by omega) (by omega)⟩
 |succ f ih=>
  intro j hj q
  obtain⟨q1,q2⟩:=sQ_s hs h3 h (j:=j) (by omega) q
  refine lSums_w1 hX ⟨irT (by omega),fun _=> ?_,fun q=>absurd q (by omega)⟩
  rw[Int.toNat_natCast]
  exact⟨by omega,part_q (by omega) (rd j (by omega)) (rd (j+1) (by omega)) (rm j (j+1) (by omega) (by omega)) (s j (by omega)),_,_,_,q2,irT (by omega),ih (j+1) (by omega) q1⟩
theorem lSums (t:Tms) (C:Cl):S 5 [tmL t,calL C] (calH C) (B true) []:=by
 refine SCall.st fun X hX=> ?_
 refine lSums_w0 hX fun(h0:tCk t=0) h h3=> ?_
 have hm:=shP_t h (by decide)
 have hs:=hm.2.1
 refine⟨hs,hm.1,fun q=> ?_⟩
 have p:plN t C=tN t:=if_pos q
 have hn:=tN_le h0 hs
 have e:=sQ_0 hs (by omega) q
 have k:=lSums_1 hX hs (by omega) q (tN t-1) 0 (by omega) (by rw[e])
 rw[e]at k
 exact⟨by omega,irT (by omega),by omega,k⟩
end Go.Proofs.YtgojmodiaffcbaaGreatDoor
