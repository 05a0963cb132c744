/-
LoanSteps.
-/
import Derived.Test.YtelidogcomffkaaGreatDoorLBe
import Derived.Test.YtelidogcomffkaaGreatDoorProg
import Derived.KernelRfl
set_option linter.unusedSectionVars false
set_option linter.unusedSimpArgs false
set_option linter.unusedVariables false
set_option maxRecDepth 100000
namespace Go.Proofs.YtelidogcomffkaaGreatDoor
open Go Go.Sx
variable [EnvT]
theorem lSteps_w {t:Tms} {C:Cl} {i j:Int} (H:((chk t.a1 t.a2 t.a3 t.a4 t.a5 t.a6 t.a7 t.a11)=0→((shP t C 36)=true→tSh t∧CalOk C∧((schE t C)≠0→Ir i∧Ir (t.a5+(Int.tmod i 1500))∧Ir j∧Ir ((t.a5+(Int.tmod i 1500))+(Int.tmod j 1500)))∧((schE t C)=0→((0:Int)≤0∧0<(((plN t C):Nat):Int))∧Ir i∧Ir (t.a5+(Int.tmod i 1500))∧Ir j∧Ir ((t.a5+(Int.tmod i 1500))+(Int.tmod j 1500))∧(¬((t.a5+(Int.tmod i 1500))+(Int.tmod j 1500))>3652059→ ¬(((plN t C):Nat):Int)<2∧(1≤(oL t C).nr∧(oL t C).nr≤100000)∧Ir (oL t C).op∧Ir (oL t C).t.a2∧(1≤(goL (oL t C) (t.a5+(Int.tmod i 1500))).nr∧(goL (oL t C) (t.a5+(Int.tmod i 1500))).nr≤100000)∧Ir (goL (oL t C) (t.a5+(Int.tmod i 1500))).op∧Ir (goL (oL t C) (t.a5+(Int.tmod i 1500))).t.a2∧(goE (t.a5+(Int.tmod i 1500)))=0∧(goE ((t.a5+(Int.tmod i 1500))+(Int.tmod j 1500)))=0∧(goE 3652059)=0∧(goE ((oL t C).R ((oL t C).nr-1)))=0∧LnEq (goL (goL (oL t C) (t.a5+(Int.tmod i 1500))) ((t.a5+(Int.tmod i 1500))+(Int.tmod j 1500))) (goL (oL t C) ((t.a5+(Int.tmod i 1500))+(Int.tmod j 1500)))∧(owV (oL t C) ((t.a5+(Int.tmod i 1500))+(Int.tmod j 1500)))=(owV (goL (oL t C) (t.a5+(Int.tmod i 1500))) ((t.a5+(Int.tmod i 1500))+(Int.tmod j 1500)))∧(owV (oL t C) 3652059)=(owV (oL t C) ((oL t C).R ((oL t C).nr-1)))∧(((t.a5+(Int.tmod i 1500))+(Int.tmod j 1500))<((oL t C).R ((oL t C).nr-1))→(¬t.a4<3→Ir ((owV (oL t C) ((t.a5+(Int.tmod i 1500))+(Int.tmod j 1500)))+1)∧(decide ((owV (oL t C) (t.a5+(Int.tmod i 1500)))≤((owV (oL t C) ((t.a5+(Int.tmod i 1500))+(Int.tmod j 1500)))+1)))=true))∧(¬((t.a5+(Int.tmod i 1500))+(Int.tmod j 1500))<((oL t C).R ((oL t C).nr-1))→(owV (oL t C) ((t.a5+(Int.tmod i 1500))+(Int.tmod j 1500)))=(owV (oL t C) ((oL t C).R ((oL t C).nr-1)))∧(¬t.a4<3→Ir ((owV (oL t C) ((t.a5+(Int.tmod i 1500))+(Int.tmod j 1500)))+1)∧(decide ((owV (oL t C) (t.a5+(Int.tmod i 1500)))≤((owV (oL t C) ((t.a5+(Int.tmod i 1500))+(Int.tmod j 1500)))+1)))=true))))))):
  S 6 [.agg [I t.a1,I t.a2,I t.a3,I t.a4,I t.a5,I t.a6,I t.a7,B (t.a8),B (t.a9),B (t.a10),I t.a11,B (C.off 0),B (C.off 1),B (C.off 2),B (C.off 3),B (C.off 4),B (C.off 5),B (C.off 6), .sl 0 C.nr, .sl 1 C.nd,N .u16 i,N .u16 j]] (calH C) (B true) []:=by
 refine SCall.st fun X hX=> ?_
 refine hX.go [c_ [] shown22,c_ [] (rCheck t.a1 t.a2 t.a3 t.a4 t.a5 t.a6 t.a7 (t.a8) (t.a9) (t.a10) t.a11)] ?_
 by_cases h0:(chk t.a1 t.a2 t.a3 t.a4 t.a5 t.a6 t.a7 t.a11)=0
 ·have K1:=H h0
  refine hX.go [n_ 3 (f_ (bne_eq_false_iff_eq.2 h0)),c_ [0,1] (show S 11 [.agg [I t.a1,I t.a2,I t.a3,I t.a4,I t.a5,I t.a6,I t.a7,B (t.a8),B (t.a9),B (t.a10),I t.a11], .agg [B (C.off 0),B (C.off 1),B (C.off 2),B (C.off 3),B (C.off 4),B (C.off 5),B (C.off 6), .sl 0 C.nr, .sl 1 C.nd],I 36] (calH C) (B (shP t C 36)) []from rShort17 t (by decide)),f_ (bne_eq_false_iff_eq.2 h0),f_ (bne_eq_false_iff_eq.2 h0)] ?_
  rcases bcase (shP t C 36)with h1|h1
  ·obtain⟨h2,h3,L4,K4⟩:=K1 h1
   refine hX.go [f_ (nf h1),i_,c_ [0,1] (show S 31 [.agg [I t.a1,I t.a2,I t.a3,I t.a4,I t.a5,I t.a6,I t.a7,B (t.a8),B (t.a9),B (t.a10),I t.a11], .agg [B (C.off 0),B (C.off 1),B (C.off 2),B (C.off 3),B (C.off 4),B (C.off 5),B (C.off 6), .sl 0 C.nr, .sl 1 C.nd]] (calH C) (.tup [.agg [.sl 2 (plN t C), .sl 3 (plN t C), .sl 4 (plN t C-1),B (plB t C),I (plE t C),I (plF t C), .sl 5 (plK t C)],I (schE t C)]) [some (.row true 3 (plN t C) 1 (fun i=>[I (tD t i)])),some (.row true 3 (plN t C) 1 (fun i=>[I ((tR t C i).1)])),some (.row true 121 (plN t C-1) 2 (fun i=>[I ((tP t C i).1),I ((tP t C i).2.1)])),some (.row true 3 (plK t C) 1 (fun i=>[I ((tQ t C i).1)]))]from sOf t h2 h3)] ?_
   by_cases h4:(schE t C)=0
   ·obtain⟨h5,h6,h7,h8,h9,K10⟩:=K4 h4
    refine hX.go [f_ (bne_eq_false_iff_eq.2 h4),q_ h5,q_ (show(plN t C)=(plN t C)from rfl),q_ h5,q_ h6,q_ (show(1500:Int)≠0 from by decide),q_ h7,q_ h8,q_ (show(1500:Int)≠0 from by decide),q_ h9,d_ 8,h_ [.t, .t, .t, .t],n_ 3 (f_ rf)] ?_
    by_cases h10:((t.a5+(Int.tmod i 1500))+(Int.tmod j 1500))>3652059
    ·exact hX.e [t_ (dt h10)]
    ·obtain⟨c11,K11⟩:=K10 h10
     refine hX.go [f_ (df h10)] ?_
     by_cases h11:(((plN t C):Nat):Int)<2
     ·exact absurd h11 c11
     ·obtain⟨h12,h13,h14,h15,h16,h17,c18,K18⟩:=K11
      refine hX.go [f_ (df h11),c_ [8,9,10,11] (lGo (oL t C) (t.a5+(Int.tmod i 1500)) h12 h13 h14),c_ [8,9,10,11] (lGo (goL (oL t C) (t.a5+(Int.tmod i 1500))) ((t.a5+(Int.tmod i 1500))+(Int.tmod j 1500)) h15 h16 h17),c_ [8,9,10,11] (lGo (oL t C) ((t.a5+(Int.tmod i 1500))+(Int.tmod j 1500)) h12 h13 h14),c_ [8,9,10,11] (lOwed (oL t C) (t.a5+(Int.tmod i 1500)) h12 h13 h14),c_ [8,9,10,11] (lOwed (oL t C) ((t.a5+(Int.tmod i 1500))+(Int.tmod j 1500)) h12 h13 h14),c_ [8,9,10,11] (lOwed (goL (oL t C) (t.a5+(Int.tmod i 1500))) ((t.a5+(Int.tmod i 1500))+(Int.tmod j 1500)) h15 h16 h17),c_ [8,9,10,11] (lOwed (oL t C) 3652059 h12 h13 h14),c_ [8,9,10,11] (rLast22 (oL t C) h12),c_ [8,9,10,11] (lOwed (oL t C) ((oL t C).R ((oL t C).nr-1)) h12 h13 h14)] ?_
      by_cases h18:(goE (t.a5+(Int.tmod i 1500)))=0
      ·obtain⟨c19,K19⟩:=K18
       refine hX.go [n_ 3 (f_ (bne_eq_false_iff_eq.2 h18))] ?_
       by_cases h19:(goE ((t.a5+(Int.tmod i 1500))+(Int.tmod j 1500)))=0
       ·obtain⟨c20,K20⟩:=K19
        refine hX.go [n_ 6 (f_ (bne_eq_false_iff_eq.2 h19)),n_ 3 (f_ (bne_eq_false_iff_eq.2 h18)),n_ 6 (f_ (bne_eq_false_iff_eq.2 h19))] ?_
        by_cases h20:(goE 3652059)=0
        ·obtain⟨c21,K21⟩:=K20
         refine hX.go [n_ 3 (f_ (bne_eq_false_iff_eq.2 h20))] ?_
         by_cases h21:(goE ((oL t C).R ((oL t C).nr-1)))=0
         ·obtain⟨h22,c23,K23⟩:=K21
          refine hX.go [f_ (bne_eq_false_iff_eq.2 h21),n_ 3 (t_ rt),c_ [8,9,10,11] (rSame22 h22),n_ 5 (t_ rt)] ?_
          by_cases h23:(owV (oL t C) ((t.a5+(Int.tmod i 1500))+(Int.tmod j 1500)))=(owV (goL (oL t C) (t.a5+(Int.tmod i 1500))) ((t.a5+(Int.tmod i 1500))+(Int.tmod j 1500)))
          ·obtain⟨c24,K24⟩:=K23
           refine hX.go [n_ 4 (t_ (beq_iff_eq.2 h23))] ?_
           by_cases h24:(owV (oL t C) 3652059)=(owV (oL t C) ((oL t C).R ((oL t C).nr-1)))
           ·obtain⟨L25,K25⟩:=K24
            refine hX.go [n_ 4 (t_ (beq_iff_eq.2 h24))] ?_
            by_cases h25:((t.a5+(Int.tmod i 1500))+(Int.tmod j 1500))<((oL t C).R ((oL t C).nr-1))
            ·have K26:=L25 h25
             refine hX.go [n_ 3 (t_ (dt h25)),t_ (beq_iff_eq.2 h24),t_ (dt h25),t_ (beq_iff_eq.2 h24),n_ 4 (t_ rt)] ?_
             by_cases h26:t.a4<3
             ·exact hX.e [n_ 4 (t_ (dt h26)),t_ rt,t_ (dt h26),t_ rt]
             ·obtain⟨h27,HE⟩:=K26 h26
              exact(hX.to (congrArg B HE).symm).e [n_ 3 (f_ (df h26)),q_ h27,h_ [.t],f_ (df h26),t_ rt,f_ (df h26),t_ rt]
            ·obtain⟨c26,K26⟩:=K25 h25
             refine hX.go [n_ 3 (f_ (df h25)),t_ (beq_iff_eq.2 h24),f_ (df h25),t_ (beq_iff_eq.2 h24)] ?_
             by_cases h26:(owV (oL t C) ((t.a5+(Int.tmod i 1500))+(Int.tmod j 1500)))=(owV (oL t C) ((oL t C).R ((oL t C).nr-1)))
             ·refine hX.go [n_ 4 (t_ (beq_iff_eq.2 h26))] ?_
              by_cases h27:t.a4<3
              ·exact hX.e [n_ 4 (t_ (dt h27)),t_ (beq_iff_eq.2 h26),t_ (dt h27),t_ (beq_iff_eq.2 h26)]
              ·obtain⟨h28,HE⟩:=K26 h27
               exact(hX.to (congrArg B HE).symm).e [n_ 3 (f_ (df h27)),q_ h28,h_ [.t],f_ (df h27),t_ (beq_iff_eq.2 h26),f_ (df h27),t_ (beq_iff_eq.2 h26)]
             ·exact absurd c26 h26
           ·exact absurd c24 h24
          ·exact absurd c23 h23
         ·exact absurd c21 h21
        ·exact absurd c20 h20
       ·exact absurd c19 h19
      ·exact absurd c18 h18
   ·obtain⟨h5,h6,h7,h8⟩:=L4 h4
    exact hX.e [t_ (bne_iff_ne.2 h4),q_ h5,q_ (show(1500:Int)≠0 from by decide),q_ h6,q_ h7,q_ (show(1500:Int)≠0 from by decide),q_ h8,h_ [.t, .t, .t, .t],n_ 3 (t_ (bne_iff_ne.2 h4)),t_ rt]
  ·exact hX.e [t_ (nt h1)]
 ·exact hX.e [n_ 5 (t_ (bne_iff_ne.2 h0)),t_ rt]
theorem pC_up {t:Tms} {C:Cl} (p:P36 t C) (h3:3≤t.a4) {f m m':Int} (h1:(tR t C 0).1≤f) (h2:f≤m) (h4:m≤m') (h5:m'≤tE t C) {q q':Rat} (e:pC t C f m=(q.num,(q.den:Int),0)) (e':pC t C f m'=(q'.num,(q'.den:Int),0)):q≤q':=by
 obtain⟨c,r, -, -⟩:=sch0 p.h
 obtain⟨rd,rm⟩:=rol p.s p.h
 have hn:=tN_36 p
 have d0:=isDay_iff.1 (rd 0 (by omega))
 have d1:1≤tE t C∧tE t C≤3652059:=isDay_iff.1 (rd (tN t-1) (by omega))
 have hk:=chk_cnt c
 have df:isDay f=true:=isDay_iff.2 (by omega)
 have dm:isDay m=true:=isDay_iff.2 (by omega)
 have dm':isDay m'=true:=isDay_iff.2 (by omega)
 have ex: ∀ {a b:Rat},(a.num,(a.den:Int),(0:Int))=(b.num,(b.den:Int),0)→a=b:=fun {a b} h=>by
  simp only[Prod.mk.injEq]at h
  exact Rat.ext h.1 (by omega)
 have key: ∃ x:Rat,0≤x.num∧q'=q+x:=by
  unfold pC at e e'
  by_cases h6:t.a4=6
  ·obtain⟨ma,l1,l2⟩:=pC_6 p.s p.h h6
   rw[h6]at e e'
   obtain⟨m1,m2,m3,m4,m5,m6,m7⟩:=may_facts ma
   have e1:=ex ((part6_of (eom:=t.a10) (e:=tE t C) df dm h2 ma (by omega) (by omega)).symm.trans e)
   have e2:=ex ((part6_of (eom:=t.a10) (e:=tE t C) df dm' (by omega) ma (by omega) (by omega)).symm.trans e')
   have ha:=psum_add (f:=(frq t.a7).toNat) (g:=fun i=>(tQ t C i).1) (by omega) (a:=f) (b:=m) (c:=m') h2 h4 (tK t-1)
   exact⟨_,(psum_small (f:=(frq t.a7).toNat) (by omega) (by omega) m2 m6 m5 m m' (Nat.le_refl (tK t-1))).1,by rw[←e1,←e2,ha]⟩
  ·obtain⟨M,x,y,hM,hM2,hxy,e1,e2,e3⟩:=lin_ok (k:=t.a4) (by omega) df dm dm' h2 h4 t.a10 (tE t C) (frq t.a7) (tK t) (fun i=>(tQ t C i).1)
   have k1:=ex (e1.symm.trans e)
   have k3:=ex (e3.symm.trans e')
   refine⟨mkRat (y:Int) M,by rw[num_nat y hM];exact Int.natCast_nonneg _, ?_⟩
   rw[←k1,←k3,mkRat_add_int _ _ hM,Int.natCast_add]
 obtain⟨x,hx,rfl⟩:=key
 rw[Rat.le_iff_sub_nonneg,Rat.sub_eq_add_neg,Rat.add_comm q x,Rat.add_assoc,Rat.add_neg_cancel,Rat.add_zero]
 exact Rat.num_nonneg.1 hx
theorem in_up {t:Tms} {C:Cl} {U:Int} {L:Ln} (p:P36 t C) (g:Good t C U L) (h3:3≤t.a4) {f m m':Int} (h1:(tR t C 0).1≤f) (h2:f≤m) (h4:m≤m') (h5:m'≤tE t C):inB L f m≤inB L f m':=by
 obtain⟨q,e,n0,v, -⟩:=in_val p g h1 h2 (by omega)
 obtain⟨q',e',n0',v', -⟩:=in_val p g h1 (by omega) h5
 have hq:=(Rat.le_iff q q').1 (pC_up p h3 h1 h2 h4 h5 e e')
 have hd:=q.den_pos
 have hd':=q'.den_pos
 rw[v,v']
 refine Int.ofNat_le.2 (near_mono (by omega) (by omega) ?_)
 have hn:q.num.toNat*q'.den≤q'.num.toNat*q.den:=by
  have a:((q.num.toNat:Nat):Int)=q.num:=Int.toNat_of_nonneg n0
  have b:((q'.num.toNat:Nat):Int)=q'.num:=Int.toNat_of_nonneg n0'
  rw[←a,←b,←Int.natCast_mul,←Int.natCast_mul]at hq
  exact Int.ofNat_le.1 hq
 rw[Nat.mul_mul_mul_comm,Nat.mul_mul_mul_comm (L.op.toNat*t.a2.toNat) q'.num.toNat]
 exact Nat.mul_le_mul_left _ hn
theorem lSteps (t:Tms) (C:Cl) {i j:Int} (hi:InR .u16 i) (hj:InR .u16 j):S 6 [.agg [I t.a1,I t.a2,I t.a3,I t.a4,I t.a5,I t.a6,I t.a7,B t.a8,B t.a9,B t.a10,I t.a11,B (C.off 0),B (C.off 1),B (C.off 2),B (C.off 3),B (C.off 4),B (C.off 5),B (C.off 6), .sl 0 C.nr, .sl 1 C.nd,N .u16 i,N .u16 j]] (calH C) (B true) []:=by
 refine lSteps_w fun(h0:tCk t=0) h=> ?_
 have hm:=shP_t h (by decide)
 simp only[InR]at hi hj
 have hki:0≤Int.tmod i 1500∧Int.tmod i 1500≤1499:=by rw[Int.tmod_eq_emod_of_nonneg (by omega)];omega
 have hkj:0≤Int.tmod j 1500∧Int.tmod j 1500≤1499:=by rw[Int.tmod_eq_emod_of_nonneg (by omega)];omega
 have dl:=isDay_iff.1 (tCk_loan h0).ds
 refine⟨hm.2.1,hm.1,fun _=>⟨irT (by omega),irT (by omega),irT (by omega),irT (by omega)⟩,fun q=> ?_⟩
 have p:P36 t C:=⟨hm.2.1,q,by have:=hm.2.2 h0;omega⟩
 have g:=oL_good p
 have hn:=tN_36 p
 have e1:plN t C=tN t:=if_pos q
 obtain⟨rd,rm⟩:=rol p.s q
 have dE:1≤tE t C∧tE t C≤3652059:=isDay_iff.1 (rd (tN t-1) (by omega))
 refine⟨by omega,irT (by omega),irT (by omega),irT (by omega),irT (by omega),fun hd=> ?_⟩
 have hab:t.a5+Int.tmod i 1500≤t.a5+Int.tmod i 1500+Int.tmod j 1500:=by omega
 have ha1:1≤t.a5+Int.tmod i 1500:=by omega
 generalize t.a5+Int.tmod i 1500+Int.tmod j 1500=b at hd hab⊢
 generalize t.a5+Int.tmod i 1500=a at hab ha1⊢
 have hia:isDay a=true:=isDay_iff.2 (by omega)
 have hib:isDay b=true:=isDay_iff.2 (by omega)
 have hiz:isDay 3652059=true:=by decide
 have hl:(oL t C).R ((oL t C).nr-1)=tE t C:=last_e g
 have hil:isDay (tE t C)=true:=rd (tN t-1) (by omega)
 have bd:=good_base p g
 have bx:=good_base p (go_good p g (by decide) hia)
 have gr:=good_grow p g
 have hR: ∀ k,k<(oL t C).nr→(oL t C).R k≤tE t C:=fun k hk=>(gr.bd k hk).2
 have two:ovS (goL (oL t C) a) b (goL (oL t C) a).nr=ovS (oL t C) b (oL t C).nr:=by
  have:=ov_two (ad:=adB (oL t C)) (s:=((oL t C).du,(oL t C).fr)) gr.mono hab
  unfold goL
  rw[if_pos hia,if_pos hia]
  exact this
 have twoS:seS (goL (oL t C) a) b=seS (oL t C) b:=by
  have:=se_two (ad:=adB (oL t C)) (s:=((oL t C).du,(oL t C).fr)) (m:=mnI b ((oL t C).R ((oL t C).nr-1))) gr.mono hab
  unfold goL
  rw[if_pos hia,if_pos hia]
  exact this
 have far: ∀ d,tE t C≤d→seS (oL t C) d=seS (oL t C) (tE t C):=fun d hd=>by
  unfold seS
  rw[hl,mnI_r hd,mnI_r (Int.le_refl _)]
  unfold seG
  rw[ov_all (fun k hk=>Int.le_trans (hR k hk) hd) hR (oL t C).nr (Nat.le_refl _)]
 rw[hl]
 have up: ¬t.a4<3→Ir (owV (oL t C) b+1)∧decide (owV (oL t C) a≤owV (oL t C) b+1)=true:=fun h3=>by
  obtain⟨sa, -, -, -, -⟩:=se_good (day:=a) p g (by decide)
  obtain⟨sb,b1,b2, -, -⟩:=se_good (day:=b) p g (by decide)
  have hmn:mnI a (tE t C)≤mnI b (tE t C):=by unfold mnI;split<;>split<;>omega
  have:=se_mono (s:=((oL t C).du,(oL t C).fr)) gr (fun f m m' q1 q2 q3 q4=>in_up p g (by omega) q1 q2 q3 q4) g.fr hab mnI_le.1 hmn mnI_le.2.1
  rw[←sa,←sb]at this
  unfold owV
  rw[if_pos hia,if_pos hib]
  exact⟨irT (by omega),decide_eq_true (by omega)⟩
 refine⟨by omega,bd.1,bd.2.1,bd.2.2,bx.1,bx.2.1,bx.2.2,if_pos hia,if_pos hib,if_pos hiz,if_pos hil,lnEq_of p ?_ rfl rfl rfl rfl, ?_, ?_,fun _=>up,fun c=>⟨?_,up⟩⟩
 ·show Ln.w _ _ _ _ _ _=Ln.w _ _ _ _ _ _
  rw[if_pos hib,if_pos hib,if_pos hib,if_pos hib,two];rfl
 ·unfold owV;rw[if_pos hib,if_pos hib,twoS]
 ·unfold owV;rw[if_pos hiz,if_pos hil,far 3652059 (by omega)]
 ·unfold owV;rw[if_pos hib,if_pos hil,far b (by omega)]
end Go.Proofs.YtelidogcomffkaaGreatDoor
