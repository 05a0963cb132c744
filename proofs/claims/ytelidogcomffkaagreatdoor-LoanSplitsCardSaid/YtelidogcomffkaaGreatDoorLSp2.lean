/-
LoanSplits.
-/
import Derived.Test.YtelidogcomffkaaGreatDoorLBe
import Derived.Test.YtelidogcomffkaaGreatDoorProg
import Derived.KernelRfl
set_option linter.unusedSectionVars false
set_option linter.unusedSimpArgs false
set_option linter.unusedVariables false
set_option maxRecDepth 100000
namespace Go.Proofs.YtelidogcomffkaaGreatDoor
open Go Go.Sx
variable [EnvT]
theorem lSplits_w {t:Tms} {C:Cl} {i p q:Int} (H:((chk t.a1 t.a2 t.a3 t.a4 t.a5 t.a6 t.a7 t.a11)=0→((shP t C 36)=true→tSh t∧CalOk C∧((schE t C)=0→((0:Int)≤0∧0<(((plN t C):Nat):Int))∧Ir i∧Ir (((tR t C 0).1)+(Int.tmod i 1500))∧(¬(((tR t C 0).1)+(Int.tmod i 1500))>3652059→Ir p∧(1≤(oL t C).nr∧(oL t C).nr≤100000)∧Ir (oL t C).op∧Ir (oL t C).t.a2∧PyOk (oL t C) (((tR t C 0).1)+(Int.tmod i 1500)) p∧Ir q∧(1≤(pyL (oL t C) (((tR t C 0).1)+(Int.tmod i 1500)) p).nr∧(pyL (oL t C) (((tR t C 0).1)+(Int.tmod i 1500)) p).nr≤100000)∧Ir (pyL (oL t C) (((tR t C 0).1)+(Int.tmod i 1500)) p).op∧Ir (pyL (oL t C) (((tR t C 0).1)+(Int.tmod i 1500)) p).t.a2∧PyOk (pyL (oL t C) (((tR t C 0).1)+(Int.tmod i 1500)) p) (((tR t C 0).1)+(Int.tmod i 1500)) q∧Ir (p+q)∧PyOk (oL t C) (((tR t C 0).1)+(Int.tmod i 1500)) (p+q)∧(pyE (oL t C) (((tR t C 0).1)+(Int.tmod i 1500)) p)=0∧(pyE (pyL (oL t C) (((tR t C 0).1)+(Int.tmod i 1500)) p) (((tR t C 0).1)+(Int.tmod i 1500)) q)=0∧(pyE (oL t C) (((tR t C 0).1)+(Int.tmod i 1500)) (p+q))=0∧Ir ((pyA (oL t C) (((tR t C 0).1)+(Int.tmod i 1500)) p)+(pyA (pyL (oL t C) (((tR t C 0).1)+(Int.tmod i 1500)) p) (((tR t C 0).1)+(Int.tmod i 1500)) q))∧((pyA (oL t C) (((tR t C 0).1)+(Int.tmod i 1500)) p)+(pyA (pyL (oL t C) (((tR t C 0).1)+(Int.tmod i 1500)) p) (((tR t C 0).1)+(Int.tmod i 1500)) q))=(pyA (oL t C) (((tR t C 0).1)+(Int.tmod i 1500)) (p+q))∧Ir ((pyB (oL t C) (((tR t C 0).1)+(Int.tmod i 1500)) p)+(pyB (pyL (oL t C) (((tR t C 0).1)+(Int.tmod i 1500)) p) (((tR t C 0).1)+(Int.tmod i 1500)) q))∧((pyB (oL t C) (((tR t C 0).1)+(Int.tmod i 1500)) p)+(pyB (pyL (oL t C) (((tR t C 0).1)+(Int.tmod i 1500)) p) (((tR t C 0).1)+(Int.tmod i 1500)) q))=(pyB (oL t C) (((tR t C 0).1)+(Int.tmod i 1500)) (p+q))∧Ir ((pyC (oL t C) (((tR t C 0).1)+(Int.tmod i 1500)) p)+(pyC (pyL (oL t C) (((tR t C 0).1)+(Int.tmod i 1500)) p) (((tR t C 0).1)+(Int.tmod i 1500)) q))∧((pyC (oL t C) (((tR t C 0).1)+(Int.tmod i 1500)) p)+(pyC (pyL (oL t C) (((tR t C 0).1)+(Int.tmod i 1500)) p) (((tR t C 0).1)+(Int.tmod i 1500)) q))=(pyC (oL t C) (((tR t C 0).1)+(Int.tmod i 1500)) (p+q))∧LnEq (pyL (pyL (oL t C) (((tR t C 0).1)+(Int.tmod i 1500)) p) (((tR t C 0).1)+(Int.tmod i 1500)) q) (pyL (oL t C) (((tR t C 0).1)+(Int.tmod i 1500)) (p+q))))))):
  S 8 [.agg [I t.a1,I t.a2,I t.a3,I t.a4,I t.a5,I t.a6,I t.a7,B (t.a8),B (t.a9),B (t.a10),I t.a11,B (C.off 0),B (C.off 1),B (C.off 2),B (C.off 3),B (C.off 4),B (C.off 5),B (C.off 6), .sl 0 C.nr, .sl 1 C.nd,N .u16 i,N .u32 p,N .u32 q]] (calH C) (B true) []:=by
 refine SCall.st fun X hX=> ?_
 refine hX.go [c_ [] shown22,c_ [] (rCheck t.a1 t.a2 t.a3 t.a4 t.a5 t.a6 t.a7 (t.a8) (t.a9) (t.a10) t.a11)] ?_
 by_cases h0:(chk t.a1 t.a2 t.a3 t.a4 t.a5 t.a6 t.a7 t.a11)=0
 ·have K1:=H h0
  refine hX.go [n_ 3 (f_ (bne_eq_false_iff_eq.2 h0)),c_ [0,1] (show S 11 [.agg [I t.a1,I t.a2,I t.a3,I t.a4,I t.a5,I t.a6,I t.a7,B (t.a8),B (t.a9),B (t.a10),I t.a11], .agg [B (C.off 0),B (C.off 1),B (C.off 2),B (C.off 3),B (C.off 4),B (C.off 5),B (C.off 6), .sl 0 C.nr, .sl 1 C.nd],I 36] (calH C) (B (shP t C 36)) []from rShort17 t (by decide)),f_ (bne_eq_false_iff_eq.2 h0),f_ (bne_eq_false_iff_eq.2 h0)] ?_
  rcases bcase (shP t C 36)with h1|h1
  ·obtain⟨h2,h3,K4⟩:=K1 h1
   refine hX.go [f_ (nf h1),i_,c_ [0,1] (show S 31 [.agg [I t.a1,I t.a2,I t.a3,I t.a4,I t.a5,I t.a6,I t.a7,B (t.a8),B (t.a9),B (t.a10),I t.a11], .agg [B (C.off 0),B (C.off 1),B (C.off 2),B (C.off 3),B (C.off 4),B (C.off 5),B (C.off 6), .sl 0 C.nr, .sl 1 C.nd]] (calH C) (.tup [.agg [.sl 2 (plN t C), .sl 3 (plN t C), .sl 4 (plN t C-1),B (plB t C),I (plE t C),I (plF t C), .sl 5 (plK t C)],I (schE t C)]) [some (.row true 3 (plN t C) 1 (fun i=>[I (tD t i)])),some (.row true 3 (plN t C) 1 (fun i=>[I ((tR t C i).1)])),some (.row true 121 (plN t C-1) 2 (fun i=>[I ((tP t C i).1),I ((tP t C i).2.1)])),some (.row true 3 (plK t C) 1 (fun i=>[I ((tQ t C i).1)]))]from sOf t h2 h3)] ?_
   by_cases h4:(schE t C)=0
   ·obtain⟨h5,h6,h7,K8⟩:=K4 h4
    refine hX.go [f_ (bne_eq_false_iff_eq.2 h4),q_ h5,q_ (show(plN t C)=(plN t C)from rfl),q_ h5,d_ 8,f_ rf,q_ h6,q_ (show(1500:Int)≠0 from by decide),q_ h7,h_ [.t, .t]] ?_
    by_cases h8:(((tR t C 0).1)+(Int.tmod i 1500))>3652059
    ·exact hX.e [t_ (dt h8)]
    ·obtain⟨h9,h10,h11,h12,h13,h14,h15,h16,h17,h18,h19,h20,c21,K21⟩:=K8 h8
     refine hX.go [f_ (df h8),q_ h9,c_ [8,9,10,11] (lPay (oL t C) (((tR t C 0).1)+(Int.tmod i 1500)) p h10 h11 h12 h13),q_ h14,c_ [8,9,10,11] (lPay (pyL (oL t C) (((tR t C 0).1)+(Int.tmod i 1500)) p) (((tR t C 0).1)+(Int.tmod i 1500)) q h15 h16 h17 h18),q_ h9,q_ h14,q_ h19,h_ [.t],c_ [8,9,10,11] (lPay (oL t C) (((tR t C 0).1)+(Int.tmod i 1500)) (p+q) h10 h11 h12 h20),n_ 4 (t_ rt)] ?_
     by_cases h21:(pyE (oL t C) (((tR t C 0).1)+(Int.tmod i 1500)) p)=0
     ·obtain⟨c22,K22⟩:=K21
      refine hX.go [n_ 4 (t_ (beq_iff_eq.2 h21))] ?_
      by_cases h22:(pyE (pyL (oL t C) (((tR t C 0).1)+(Int.tmod i 1500)) p) (((tR t C 0).1)+(Int.tmod i 1500)) q)=0
      ·obtain⟨c23,K23⟩:=K22
       refine hX.go [n_ 4 (t_ (beq_iff_eq.2 h22))] ?_
       by_cases h23:(pyE (oL t C) (((tR t C 0).1)+(Int.tmod i 1500)) (p+q))=0
       ·obtain⟨h24,c25,K25⟩:=K23
        refine hX.go [n_ 5 (t_ (beq_iff_eq.2 h23)),q_ h24,h_ [.t],n_ 4 (t_ (beq_iff_eq.2 h23))] ?_
        by_cases h25:((pyA (oL t C) (((tR t C 0).1)+(Int.tmod i 1500)) p)+(pyA (pyL (oL t C) (((tR t C 0).1)+(Int.tmod i 1500)) p) (((tR t C 0).1)+(Int.tmod i 1500)) q))=(pyA (oL t C) (((tR t C 0).1)+(Int.tmod i 1500)) (p+q))
        ·obtain⟨h26,c27,K27⟩:=K25
         refine hX.go [n_ 5 (t_ (beq_iff_eq.2 h25)),q_ h26,h_ [.t],n_ 4 (t_ (beq_iff_eq.2 h25))] ?_
         by_cases h27:((pyB (oL t C) (((tR t C 0).1)+(Int.tmod i 1500)) p)+(pyB (pyL (oL t C) (((tR t C 0).1)+(Int.tmod i 1500)) p) (((tR t C 0).1)+(Int.tmod i 1500)) q))=(pyB (oL t C) (((tR t C 0).1)+(Int.tmod i 1500)) (p+q))
         ·obtain⟨h28,c29,K29⟩:=K27
          refine hX.go [n_ 5 (t_ (beq_iff_eq.2 h27)),q_ h28,h_ [.t],n_ 4 (t_ (beq_iff_eq.2 h27))] ?_
          by_cases h29:((pyC (oL t C) (((tR t C 0).1)+(Int.tmod i 1500)) p)+(pyC (pyL (oL t C) (((tR t C 0).1)+(Int.tmod i 1500)) p) (((tR t C 0).1)+(Int.tmod i 1500)) q))=(pyC (oL t C) (((tR t C 0).1)+(Int.tmod i 1500)) (p+q))
          ·have h30:=K29
           exact hX.e [n_ 3 (t_ (beq_iff_eq.2 h29)),c_ [8,9,10,11] (rSame22 h30),t_ (beq_iff_eq.2 h29)]
          ·exact absurd c29 h29
         ·exact absurd c27 h27
        ·exact absurd c25 h25
       ·exact absurd c23 h23
      ·exact absurd c22 h22
     ·exact absurd c21 h21
   ·exact hX.e [t_ (bne_iff_ne.2 h4),t_ (bne_iff_ne.2 h4)]
  ·exact hX.e [t_ (nt h1)]
 ·exact hX.e [n_ 5 (t_ (bne_iff_ne.2 h0)),t_ rt]
theorem lSplits (t:Tms) (C:Cl) {i a b:Int} (hi:InR .u16 i) (ha:InR .u32 a) (hb:InR .u32 b):S 8 [.agg [I t.a1,I t.a2,I t.a3,I t.a4,I t.a5,I t.a6,I t.a7,B t.a8,B t.a9,B t.a10,I t.a11,B (C.off 0),B (C.off 1),B (C.off 2),B (C.off 3),B (C.off 4),B (C.off 5),B (C.off 6), .sl 0 C.nr, .sl 1 C.nd,N .u16 i,N .u32 a,N .u32 b]] (calH C) (B true) []:=by
 refine lSplits_w fun(h0:tCk t=0) h=> ?_
 have hm:=shP_t h (by decide)
 refine⟨hm.2.1,hm.1,fun q=> ?_⟩
 have p:P36 t C:=⟨hm.2.1,q,by have:=hm.2.2 h0;omega⟩
 have g:=oL_good p
 have hn:=tN_36 p
 have e1:plN t C=tN t:=if_pos q
 obtain⟨rd,rm⟩:=rol p.s q
 have d0:=isDay_iff.1 (rd 0 (by omega))
 simp only[InR]at hi ha hb
 have hk:0≤Int.tmod i 1500∧Int.tmod i 1500≤1499:=by rw[Int.tmod_eq_emod_of_nonneg (by omega)];omega
 refine⟨by omega,irT (by omega),irT (by omega),fun hd=> ?_⟩
 generalize hday:(tR t C 0).1+Int.tmod i 1500=day at hd⊢
 have hfr:(oL t C).fr≤day:=by show(tR t C 0).1≤day;omega
 have hid:isDay day=true:=isDay_iff.2 (by omega)
 have hmon:=chk_mon h0
 obtain⟨b1,b2,b3⟩:=good_base p g
 obtain⟨-,s1,s2, -, -⟩:=se_good (day:=day) p g (by decide)
 have f1:=py_e (L:=oL t C) (m:=a) hid hfr (by omega)
 have f3:=py_e (L:=oL t C) (m:=a+b) hid hfr (by omega)
 obtain⟨-, -, -,w4,w5,w6,w7,w8⟩:=py_val f1
 have hx:(pyL (oL t C) day a).fr≤day:=by rw[w6];exact seS_le hfr
 have f2:=py_e (L:=pyL (oL t C) day a) (m:=b) hid hx (by omega)
 have g1:=py_good p g (by decide) hid hfr (m:=a) (by omega)
 obtain⟨c1,c2,c3⟩:=good_base p g1
 have m1:=mnI_le (x:=a) (y:=(seS (oL t C) day).1)
 have m2:=mnI_le (x:=a-mnI a (seS (oL t C) day).1) (y:=(oL t C).op)
 have eop:(oL t C).op=t.a1:=rfl
 have ok2:PyOk (pyL (oL t C) day a) day b:=py_okk p g1 (by decide) (by rw[w7];show 0≤0+_∧0+_≤_;omega) (by rw[w8];show 0≤0+_∧0+_≤_;omega)
 obtain⟨k1,k2,k3,k4⟩:=py_two (L:=oL t C) (n:=day) (a:=a) (b:=b) (by omega) (by omega) s1 (by rw[eop];omega) f1 f2 f3
 have m3:=mnI_le (x:=a+b) (y:=(seS (oL t C) day).1)
 have m4:=mnI_le (x:=a+b-mnI (a+b) (seS (oL t C) day).1) (y:=(oL t C).op)
 obtain⟨x1,x2,x3, -, -, -, -, -⟩:=py_val f3
 rw[k1,k2,k3]
 exact⟨irT (by omega),b1,b2,b3,py_okk p g (by decide) (show(0:Int)≤0∧(0:Int)≤1000000000000000 by decide) (show(0:Int)≤0∧(0:Int)≤100000000000000000 by decide),irT (by omega),c1,c2,c3,ok2,irT (by omega),py_okk p g (by decide) (show(0:Int)≤0∧(0:Int)≤1000000000000000 by decide) (show(0:Int)≤0∧(0:Int)≤100000000000000000 by decide),f1,f2,f3,
  by rw[x1];exact irT (by omega),rfl,by rw[x2];exact irT (by omega),rfl,by rw[x3];exact irT (by omega),rfl,lnEq_of p k4 rfl rfl rfl rfl⟩
end Go.Proofs.YtelidogcomffkaaGreatDoor
