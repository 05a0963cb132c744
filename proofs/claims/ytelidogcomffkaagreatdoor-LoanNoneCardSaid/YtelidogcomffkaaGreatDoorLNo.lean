/-
LoanNone.
-/
import Derived.Test.YtelidogcomffkaaGreatDoorLBe
import Derived.Test.YtelidogcomffkaaGreatDoorProg
import Derived.KernelRfl
set_option linter.unusedSectionVars false
set_option linter.unusedSimpArgs false
set_option linter.unusedVariables false
set_option maxRecDepth 100000
namespace Go.Proofs.YtelidogcomffkaaGreatDoor
open Go Go.Sx
variable [EnvT]
theorem lNone_w {t:Tms} {C:Cl} {i mo:Int} (H:((chk t.a1 t.a2 t.a3 t.a4 t.a5 t.a6 t.a7 t.a11)=0→((shP t C 36)=true→tSh t∧CalOk C∧((schE t C)=0→((0:Int)≤0∧0<(((plN t C):Nat):Int))∧Ir i∧Ir (((tR t C 0).1)+(Int.tmod i 1500))∧(¬(((tR t C 0).1)+(Int.tmod i 1500))>3652059→(1≤(oL t C).nr∧(oL t C).nr≤100000)∧Ir (oL t C).op∧Ir (oL t C).t.a2∧PyOk (oL t C) (((tR t C 0).1)+(Int.tmod i 1500)) 0∧PyOk (oL t C) (((tR t C 0).1)+(Int.tmod i 1500)) (quV (oL t C) (((tR t C 0).1)+(Int.tmod i 1500)))∧Ir mo∧Ir ((quV (oL t C) (((tR t C 0).1)+(Int.tmod i 1500)))+mo)∧PyOk (oL t C) (((tR t C 0).1)+(Int.tmod i 1500)) ((quV (oL t C) (((tR t C 0).1)+(Int.tmod i 1500)))+mo)∧(goE (((tR t C 0).1)+(Int.tmod i 1500)))=0∧(((pyE (oL t C) (((tR t C 0).1)+(Int.tmod i 1500)) 0)==0)&&(((pyA (oL t C) (((tR t C 0).1)+(Int.tmod i 1500)) 0)==0)&&(((pyB (oL t C) (((tR t C 0).1)+(Int.tmod i 1500)) 0)==0)&&(((pyC (oL t C) (((tR t C 0).1)+(Int.tmod i 1500)) 0)==0)&&true))))=true∧((pyL (oL t C) (((tR t C 0).1)+(Int.tmod i 1500)) 0).op)=t.a1∧((pyL (oL t C) (((tR t C 0).1)+(Int.tmod i 1500)) 0).du)=(owV (oL t C) (((tR t C 0).1)+(Int.tmod i 1500)))∧(((pyE (oL t C) (((tR t C 0).1)+(Int.tmod i 1500)) (quV (oL t C) (((tR t C 0).1)+(Int.tmod i 1500))))==0)&&(((pyA (oL t C) (((tR t C 0).1)+(Int.tmod i 1500)) (quV (oL t C) (((tR t C 0).1)+(Int.tmod i 1500))))==(owV (oL t C) (((tR t C 0).1)+(Int.tmod i 1500))))&&(((pyB (oL t C) (((tR t C 0).1)+(Int.tmod i 1500)) (quV (oL t C) (((tR t C 0).1)+(Int.tmod i 1500))))==t.a1)&&(((pyC (oL t C) (((tR t C 0).1)+(Int.tmod i 1500)) (quV (oL t C) (((tR t C 0).1)+(Int.tmod i 1500))))==0)&&true))))=true∧(((pyE (oL t C) (((tR t C 0).1)+(Int.tmod i 1500)) ((quV (oL t C) (((tR t C 0).1)+(Int.tmod i 1500)))+mo))==0)&&(((pyA (oL t C) (((tR t C 0).1)+(Int.tmod i 1500)) ((quV (oL t C) (((tR t C 0).1)+(Int.tmod i 1500)))+mo))==(owV (oL t C) (((tR t C 0).1)+(Int.tmod i 1500))))&&(((pyB (oL t C) (((tR t C 0).1)+(Int.tmod i 1500)) ((quV (oL t C) (((tR t C 0).1)+(Int.tmod i 1500)))+mo))==t.a1)&&(((pyC (oL t C) (((tR t C 0).1)+(Int.tmod i 1500)) ((quV (oL t C) (((tR t C 0).1)+(Int.tmod i 1500)))+mo))==mo)&&true))))=true∧(1≤(pyL (oL t C) (((tR t C 0).1)+(Int.tmod i 1500)) (quV (oL t C) (((tR t C 0).1)+(Int.tmod i 1500)))).nr∧(pyL (oL t C) (((tR t C 0).1)+(Int.tmod i 1500)) (quV (oL t C) (((tR t C 0).1)+(Int.tmod i 1500)))).nr≤100000)∧Ir (pyL (oL t C) (((tR t C 0).1)+(Int.tmod i 1500)) (quV (oL t C) (((tR t C 0).1)+(Int.tmod i 1500)))).op∧Ir (pyL (oL t C) (((tR t C 0).1)+(Int.tmod i 1500)) (quV (oL t C) (((tR t C 0).1)+(Int.tmod i 1500)))).t.a2∧((pyL (oL t C) (((tR t C 0).1)+(Int.tmod i 1500)) (quV (oL t C) (((tR t C 0).1)+(Int.tmod i 1500)))).op)=0∧((pyL (oL t C) (((tR t C 0).1)+(Int.tmod i 1500)) (quV (oL t C) (((tR t C 0).1)+(Int.tmod i 1500)))).du)=0∧LnEq (pyL (oL t C) (((tR t C 0).1)+(Int.tmod i 1500)) (quV (oL t C) (((tR t C 0).1)+(Int.tmod i 1500)))) (pyL (oL t C) (((tR t C 0).1)+(Int.tmod i 1500)) ((quV (oL t C) (((tR t C 0).1)+(Int.tmod i 1500)))+mo))∧(owV (pyL (oL t C) (((tR t C 0).1)+(Int.tmod i 1500)) (quV (oL t C) (((tR t C 0).1)+(Int.tmod i 1500)))) 3652059)=0∧((goE 3652059)==0)=true))))):
  S 7 [.agg [I t.a1,I t.a2,I t.a3,I t.a4,I t.a5,I t.a6,I t.a7,B (t.a8),B (t.a9),B (t.a10),I t.a11,B (C.off 0),B (C.off 1),B (C.off 2),B (C.off 3),B (C.off 4),B (C.off 5),B (C.off 6), .sl 0 C.nr, .sl 1 C.nd,N .u16 i,N .u32 mo]] (calH C) (B true) []:=by
 refine SCall.st fun X hX=> ?_
 refine hX.go [c_ [] shown22,c_ [] (rCheck t.a1 t.a2 t.a3 t.a4 t.a5 t.a6 t.a7 (t.a8) (t.a9) (t.a10) t.a11)] ?_
 by_cases h0:(chk t.a1 t.a2 t.a3 t.a4 t.a5 t.a6 t.a7 t.a11)=0
 ·have K1:=H h0
  refine hX.go [n_ 3 (f_ (bne_eq_false_iff_eq.2 h0)),c_ [0,1] (show S 11 [.agg [I t.a1,I t.a2,I t.a3,I t.a4,I t.a5,I t.a6,I t.a7,B (t.a8),B (t.a9),B (t.a10),I t.a11], .agg [B (C.off 0),B (C.off 1),B (C.off 2),B (C.off 3),B (C.off 4),B (C.off 5),B (C.off 6), .sl 0 C.nr, .sl 1 C.nd],I 36] (calH C) (B (shP t C 36)) []from rShort17 t (by decide)),f_ (bne_eq_false_iff_eq.2 h0),f_ (bne_eq_false_iff_eq.2 h0)] ?_
  rcases bcase (shP t C 36)with h1|h1
  ·obtain⟨h2,h3,K4⟩:=K1 h1
   refine hX.go [f_ (nf h1),i_,c_ [0,1] (show S 31 [.agg [I t.a1,I t.a2,I t.a3,I t.a4,I t.a5,I t.a6,I t.a7,B (t.a8),B (t.a9),B (t.a10),I t.a11], .agg [B (C.off 0),B (C.off 1),B (C.off 2),B (C.off 3),B (C.off 4),B (C.off 5),B (C.off 6), .sl 0 C.nr, .sl 1 C.nd]] (calH C) (.tup [.agg [.sl 2 (plN t C), .sl 3 (plN t C), .sl 4 (plN t C-1),B (plB t C),I (plE t C),I (plF t C), .sl 5 (plK t C)],I (schE t C)]) [some (.row true 3 (plN t C) 1 (fun i=>[I (tD t i)])),some (.row true 3 (plN t C) 1 (fun i=>[I ((tR t C i).1)])),some (.row true 121 (plN t C-1) 2 (fun i=>[I ((tP t C i).1),I ((tP t C i).2.1)])),some (.row true 3 (plK t C) 1 (fun i=>[I ((tQ t C i).1)]))]from sOf t h2 h3)] ?_
   by_cases h4:(schE t C)=0
   ·obtain⟨h5,h6,h7,K8⟩:=K4 h4
    refine hX.go [f_ (bne_eq_false_iff_eq.2 h4),q_ h5,q_ (show(plN t C)=(plN t C)from rfl),q_ h5,d_ 8,f_ rf,q_ h6,q_ (show(1500:Int)≠0 from by decide),q_ h7,h_ [.t, .t]] ?_
    by_cases h8:(((tR t C 0).1)+(Int.tmod i 1500))>3652059
    ·exact hX.e [t_ (dt h8)]
    ·obtain⟨h9,h10,h11,h12,h13,h14,h15,h16,c17,K17⟩:=K8 h8
     refine hX.go [f_ (df h8),c_ [8,9,10,11] (lQuote (oL t C) (((tR t C 0).1)+(Int.tmod i 1500)) h9 h10 h11),c_ [8,9,10,11] (lOwed (oL t C) (((tR t C 0).1)+(Int.tmod i 1500)) h9 h10 h11),c_ [8,9,10,11] (lPay (oL t C) (((tR t C 0).1)+(Int.tmod i 1500)) 0 h9 h10 h11 h12),c_ [8,9,10,11] (lPay (oL t C) (((tR t C 0).1)+(Int.tmod i 1500)) (quV (oL t C) (((tR t C 0).1)+(Int.tmod i 1500))) h9 h10 h11 h13),q_ h14,q_ h15,h_ [.t],c_ [8,9,10,11] (lPay (oL t C) (((tR t C 0).1)+(Int.tmod i 1500)) ((quV (oL t C) (((tR t C 0).1)+(Int.tmod i 1500)))+mo) h9 h10 h11 h16)] ?_
     by_cases h17:(goE (((tR t C 0).1)+(Int.tmod i 1500)))=0
     ·obtain⟨c18,K18⟩:=K17
      refine hX.go [n_ 7 (f_ (bne_eq_false_iff_eq.2 h17))] ?_
      rcases bcase (((pyE (oL t C) (((tR t C 0).1)+(Int.tmod i 1500)) 0)==0)&&(((pyA (oL t C) (((tR t C 0).1)+(Int.tmod i 1500)) 0)==0)&&(((pyB (oL t C) (((tR t C 0).1)+(Int.tmod i 1500)) 0)==0)&&(((pyC (oL t C) (((tR t C 0).1)+(Int.tmod i 1500)) 0)==0)&&true))))with h18|h18
      ·obtain⟨c19,K19⟩:=K18
       refine hX.go [n_ 6 (f_ (nf h18))] ?_
       by_cases h19:((pyL (oL t C) (((tR t C 0).1)+(Int.tmod i 1500)) 0).op)=t.a1
       ·obtain⟨c20,K20⟩:=K19
        refine hX.go [n_ 5 (f_ (bne_eq_false_iff_eq.2 h19))] ?_
        by_cases h20:((pyL (oL t C) (((tR t C 0).1)+(Int.tmod i 1500)) 0).du)=(owV (oL t C) (((tR t C 0).1)+(Int.tmod i 1500)))
        ·obtain⟨c21,K21⟩:=K20
         refine hX.go [n_ 7 (f_ (bne_eq_false_iff_eq.2 h20))] ?_
         rcases bcase (((pyE (oL t C) (((tR t C 0).1)+(Int.tmod i 1500)) (quV (oL t C) (((tR t C 0).1)+(Int.tmod i 1500))))==0)&&(((pyA (oL t C) (((tR t C 0).1)+(Int.tmod i 1500)) (quV (oL t C) (((tR t C 0).1)+(Int.tmod i 1500))))==(owV (oL t C) (((tR t C 0).1)+(Int.tmod i 1500))))&&(((pyB (oL t C) (((tR t C 0).1)+(Int.tmod i 1500)) (quV (oL t C) (((tR t C 0).1)+(Int.tmod i 1500))))==t.a1)&&(((pyC (oL t C) (((tR t C 0).1)+(Int.tmod i 1500)) (quV (oL t C) (((tR t C 0).1)+(Int.tmod i 1500))))==0)&&true))))with h21|h21
         ·obtain⟨c22,K22⟩:=K21
          refine hX.go [n_ 6 (f_ (nf h21)),q_ h14,n_ 3 (f_ (nf h21))] ?_
          rcases bcase (((pyE (oL t C) (((tR t C 0).1)+(Int.tmod i 1500)) ((quV (oL t C) (((tR t C 0).1)+(Int.tmod i 1500)))+mo))==0)&&(((pyA (oL t C) (((tR t C 0).1)+(Int.tmod i 1500)) ((quV (oL t C) (((tR t C 0).1)+(Int.tmod i 1500)))+mo))==(owV (oL t C) (((tR t C 0).1)+(Int.tmod i 1500))))&&(((pyB (oL t C) (((tR t C 0).1)+(Int.tmod i 1500)) ((quV (oL t C) (((tR t C 0).1)+(Int.tmod i 1500)))+mo))==t.a1)&&(((pyC (oL t C) (((tR t C 0).1)+(Int.tmod i 1500)) ((quV (oL t C) (((tR t C 0).1)+(Int.tmod i 1500)))+mo))==mo)&&true))))with h22|h22
          ·obtain⟨h23,h24,h25,c26,K26⟩:=K22
           refine hX.go [f_ (nf h22),c_ [8,9,10,11] (lOwed (pyL (oL t C) (((tR t C 0).1)+(Int.tmod i 1500)) (quV (oL t C) (((tR t C 0).1)+(Int.tmod i 1500)))) 3652059 h23 h24 h25),n_ 4 (t_ rt)] ?_
           by_cases h26:((pyL (oL t C) (((tR t C 0).1)+(Int.tmod i 1500)) (quV (oL t C) (((tR t C 0).1)+(Int.tmod i 1500)))).op)=0
           ·obtain⟨c27,K27⟩:=K26
            refine hX.go [n_ 4 (t_ (beq_iff_eq.2 h26))] ?_
            by_cases h27:((pyL (oL t C) (((tR t C 0).1)+(Int.tmod i 1500)) (quV (oL t C) (((tR t C 0).1)+(Int.tmod i 1500)))).du)=0
            ·obtain⟨h28,c29,K29⟩:=K27
             refine hX.go [n_ 3 (t_ (beq_iff_eq.2 h27)),c_ [8,9,10,11] (rSame22 h28),t_ (beq_iff_eq.2 h27),n_ 3 (t_ rt)] ?_
             by_cases h29:(owV (pyL (oL t C) (((tR t C 0).1)+(Int.tmod i 1500)) (quV (oL t C) (((tR t C 0).1)+(Int.tmod i 1500)))) 3652059)=0
             ·have HE:=K29
              exact(hX.to (congrArg B HE).symm).e [n_ 3 (t_ (beq_iff_eq.2 h29))]
             ·exact absurd c29 h29
            ·exact absurd c27 h27
           ·exact absurd c26 h26
          ·exact Go.Sx.nob c22 h22
         ·exact Go.Sx.nob c21 h21
        ·exact absurd c20 h20
       ·exact absurd c19 h19
      ·exact Go.Sx.nob c18 h18
     ·exact absurd c17 h17
   ·exact hX.e [t_ (bne_iff_ne.2 h4),t_ (bne_iff_ne.2 h4)]
  ·exact hX.e [t_ (nt h1)]
 ·exact hX.e [n_ 5 (t_ (bne_iff_ne.2 h0)),t_ rt]
theorem lNone (t:Tms) (C:Cl) {i mo:Int} (hi:InR .u16 i) (hmo:InR .u32 mo):S 7 [.agg [I t.a1,I t.a2,I t.a3,I t.a4,I t.a5,I t.a6,I t.a7,B t.a8,B t.a9,B t.a10,I t.a11,B (C.off 0),B (C.off 1),B (C.off 2),B (C.off 3),B (C.off 4),B (C.off 5),B (C.off 6), .sl 0 C.nr, .sl 1 C.nd,N .u16 i,N .u32 mo]] (calH C) (B true) []:=by
 refine lNone_w fun(h0:tCk t=0) h=> ?_
 have hm:=shP_t h (by decide)
 refine⟨hm.2.1,hm.1,fun q=> ?_⟩
 have p:P36 t C:=⟨hm.2.1,q,by have:=hm.2.2 h0;omega⟩
 have g:=oL_good p
 have hn:=tN_36 p
 have e1:plN t C=tN t:=if_pos q
 obtain⟨rd,rm⟩:=rol p.s q
 have d0:=isDay_iff.1 (rd 0 (by omega))
 simp only[InR]at hi hmo
 have hk:0≤Int.tmod i 1500∧Int.tmod i 1500≤1499:=by rw[Int.tmod_eq_emod_of_nonneg (by omega)];omega
 refine⟨by omega,irT (by omega),irT (by omega),fun hd=> ?_⟩
 generalize hday:(tR t C 0).1+Int.tmod i 1500=day at hd⊢
 have hfr:(oL t C).fr≤day:=by show(tR t C 0).1≤day;omega
 have hid:isDay day=true:=isDay_iff.2 (by omega)
 have hmon:=chk_mon h0
 obtain⟨b1,b2,b3⟩:=good_base p g
 obtain⟨-,s1,s2, -, -⟩:=se_good (day:=day) p g (by decide)
 have ok: ∀ m,PyOk (oL t C) day m:=fun m=>py_okk p g (by decide) (show(0:Int)≤0∧(0:Int)≤1000000000000000 by decide) (show(0:Int)≤0∧(0:Int)≤100000000000000000 by decide)
 have eop:(oL t C).op=t.a1:=rfl
 have eo:owV (oL t C) day=(seS (oL t C) day).1:=if_pos hid
 have eq:quV (oL t C) day=(seS (oL t C) day).1+t.a1:=by
  unfold quV;rw[if_pos hid];exact W64_in (by rw[eop];omega) (by rw[eop];omega)
 rw[eq,eo]
 have f0:=py_e (L:=oL t C) (m:=0) hid hfr (by decide)
 have f1:=py_e (L:=oL t C) (m:=(seS (oL t C) day).1+t.a1) hid hfr (by omega)
 have f2:=py_e (L:=oL t C) (m:=(seS (oL t C) day).1+t.a1+mo) hid hfr (by omega)
 have g1:=py_good p g (by decide) hid hfr (m:=(seS (oL t C) day).1+t.a1) (by omega)
 obtain⟨v1,v2,v3,v4,v5, -, -, -⟩:=py_val f0
 obtain⟨w1,w2,w3,w4,w5, -, -, -⟩:=py_val f1
 obtain⟨x1,x2,x3, -, -, -, -, -⟩:=py_val f2
 have y1:pyL (oL t C) day ((seS (oL t C) day).1+t.a1)=pyL (oL t C) day ((seS (oL t C) day).1+t.a1+mo):=by
  rw[pyL_e f1,pyL_e f2,eop,mnI_r (x:=(seS (oL t C) day).1+t.a1) (y:=(seS (oL t C) day).1) (by omega),mnI_r (x:=(seS (oL t C) day).1+t.a1+mo) (y:=(seS (oL t C) day).1) (by omega),
   mnI_r (x:=(seS (oL t C) day).1+t.a1-(seS (oL t C) day).1) (y:=t.a1) (by omega),mnI_r (x:=(seS (oL t C) day).1+t.a1+mo-(seS (oL t C) day).1) (y:=t.a1) (by omega)]
 rw[eop]at v2 v3 v4 w2 w3 w4 x2 x3
 generalize hD:(seS (oL t C) day).1=D at*
 rw[mnI_l (x:=0) (y:=D) (by omega)]at v1 v2 v3 v4 v5
 rw[show(0:Int)-0=0 from rfl,mnI_l (x:=0) (y:=t.a1) (by omega)]at v2 v3 v4
 rw[mnI_r (x:=D+t.a1) (y:=D) (by omega)]at w1 w2 w3 w4 w5
 rw[mnI_r (x:=D+t.a1-D) (y:=t.a1) (by omega)]at w2 w3 w4
 rw[mnI_r (x:=D+t.a1+mo) (y:=D) (by omega)]at x1 x2 x3
 rw[mnI_r (x:=D+t.a1+mo-D) (y:=t.a1) (by omega)]at x2 x3
 have hop:(pyL (oL t C) day (D+t.a1)).op=0:=by rw[w4];omega
 have hdu:(pyL (oL t C) day (D+t.a1)).du=0:=by rw[w5];omega
 obtain⟨c1,c2,c3⟩:=good_base p g1
 have hz:=se_zero p g1 (by decide) hop 3652059
 refine⟨b1,b2,b3,ok _,ok _,irT (by omega),irT (by omega),ok _,if_pos hid, ?_,by rw[v4];omega,by rw[v5];omega, ?_, ?_,c1,c2,c3,hop,hdu,lnEq_of p y1 rfl rfl rfl rfl, ?_,rfl⟩
 ·rw[f0,v1,v2,v3];rfl
 ·rw[f1,w1,w2,w3];simp;omega
 ·rw[f2,x1,x2,x3];simp;omega
 ·unfold owV;rw[if_pos (show isDay 3652059=true by decide),hz,hdu]
end Go.Proofs.YtelidogcomffkaaGreatDoor
