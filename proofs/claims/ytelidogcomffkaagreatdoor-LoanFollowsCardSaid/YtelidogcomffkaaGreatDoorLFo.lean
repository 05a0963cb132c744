/-
LoanFollows.
-/
import Derived.Test.YtelidogcomffkaaGreatDoorTab
import Derived.Test.YtelidogcomffkaaGreatDoorLSv
import Derived.Test.YtelidogcomffkaaGreatDoorProg
import Derived.KernelRfl
set_option linter.unusedVariables false
set_option linter.unusedSimpArgs false
set_option linter.unusedSectionVars false
set_option maxRecDepth 100000
namespace Go.Proofs.YtelidogcomffkaaGreatDoor
open Go Go.Sx
variable [EnvT]
noncomputable def tbK (t:Tms) (C:Cl):Nat→Int→Int:=bkT t.a3 (plN t C-1) t.a1 t.a2 (fun i=>(tP t C i).1) (fun i=>(tP t C i).2.1)
noncomputable def tbO (t:Tms) (C:Cl) (i:Nat):Int:=opF (tbK t C) t.a1 i
noncomputable def tbI (t:Tms) (C:Cl) (i:Nat):Int:=inF t.a2 (fun i=>(tP t C i).1) (fun i=>(tP t C i).2.1) i (tbO t C i)
noncomputable def tbB (t:Tms) (C:Cl) (i:Nat):Int:=tbK t C i (tbO t C i)
theorem ofV_e {o r:Int} {q:Rat} (ho:0≤o) (hr:0≤r) (hor:o*r≤9000000000000000000) (h0:0≤q.num) (h1:q.num≤44*(q.den:Int)) (h2:q.den≤1000000000000000):(ofV o r q.num (q.den:Int)).2=0:=by
 obtain⟨-,v⟩:=ofV_in ho hr hor h0 h1 h2
 have hd:=q.den_pos
 have hR:=right_q h0 (by omega) (by omega)
 have h5:=near_le (o.toNat*r.toNat*q.num.toNat) (10000*q.den)
 obtain⟨O,rfl⟩:=Int.eq_ofNat_of_zero_le ho
 obtain⟨R,rfl⟩:=Int.eq_ofNat_of_zero_le hr
 have hor':O*R≤9000000000000000000:=by rw[←Int.natCast_mul]at hor;omega
 unfold ofV rnd
 rw[if_pos hR,if_neg (by omega)]
 simp only[Int.toNat_natCast]at v h5⊢
 rw[show(10000:Int).toNat=10000 from rfl]
 have hn:q.num.toNat≤44*q.den:=by omega
 have h3:O*R*q.num.toNat≤9000000000000000000*(44*q.den):=Nat.mul_le_mul hor' hn
 have h4:O*R*q.num.toNat/(10000*q.den)≤39600000000000000:=by
  refine Nat.le_of_lt_succ ((Nat.div_lt_iff_lt_mul (by omega)).2 ?_)
  rw[Nat.succ_mul];omega
 rw[if_neg (by omega)]
 unfold tl
 rw[if_neg (by omega)]
theorem part_00 {k a:Int} {eom:Bool} {e f:Int} {n:Nat} {g:Nat→Int} (hk:0≤k∧k≤6) (ha:isDay a=true) (h:k=6→mayB n g f=true∧g 0≤a∧a≤g (n-1)):partC k a a eom e f n g=(0,1,0):=by
 by_cases h3:3≤k
 ·exact part_0 ⟨h3,hk.2⟩ ha h
 ·obtain⟨q, -, -, -,e1,z⟩:=zero_ok hk ha ha (Int.le_refl _) eom e
  rw[show partC k a a eom e f n g=partC k a a eom e 2 2 (fun i=>[(1:Int),3652059].getD i 0)by unfold partC;(repeat' split)<;>first|rfl|omega,e1,z rfl];rfl
theorem chk_kind {t:Tms} (h:tCk t=0):0≤t.a3∧t.a3≤2:=by
 unfold tCk chk at h
 split at h
 ·cases h
 ·omega
theorem plN_t {t:Tms} {C:Cl} (p:P36 t C):plN t C=tN t:=if_pos p.h
theorem tP_q {t:Tms} {C:Cl} (p:P36 t C) {i:Nat} (hi:i+1<tN t): ∃ q:Rat,tP t C i=(q.num,(q.den:Int),0)∧0≤q.num∧q.num≤44*(q.den:Int)∧q.den≤1000000000000000:=by
 obtain⟨rd,rm⟩:=rol p.s p.h
 exact pC_fit p.s p.h p.m (rm 0 i (by omega) (by omega)) (rm i (i+1) (by omega) hi) (rm (i+1) (tN t-1) (by omega) (by omega))
theorem tb_T {t:Tms} {C:Cl} (p:P36 t C):Tb (plN t C-1) t.a1 t.a2 (fun i=>(tP t C i).1) (fun i=>(tP t C i).2.1):=by
 have hn:=tN_36 p
 have hm:=chk_mon (sch0 p.h).1
 have hr:=chk_rate (sch0 p.h).1
 have e:=plN_t p
 refine⟨by omega,by omega,⟨hm.1,hm.2.1⟩,irT (by omega),fun i hi o h0 h1=> ?_⟩
 obtain⟨q,e1,q1,q2,q3⟩:=tP_q p (i:=i) (by omega)
 have hor:o*t.a2≤9000000000000000000:=Int.le_trans (Int.mul_le_mul_of_nonneg_right h1 hm.2.2.1) hm.2.2.2
 obtain⟨v1,v2⟩:=ofV_in h0 hm.2.2.1 hor q1 q2 q3
 have v3:=ofV_e h0 hm.2.2.1 hor q1 q2 q3
 unfold inF
 simp only[e1]
 exact⟨v3,by omega,by omega⟩
theorem tOf22 (t:Tms) (C:Cl) (p:P36 t C):S 44 [I t.a3,I t.a1,I t.a2, .sl 0 (plN t C-1)] [some (.row false 121 (plN t C-1) 2 (fun i=>[I ((tP t C i).1),I ((tP t C i).2.1)]))] (.tup [.sl 1 (plN t C-1),I 0]) [some (.row true 65 (plN t C-1) 5 (fun i=>[I (tbO t C i),I (tbI t C i),I (tbB t C i),I (tbI t C i+tbB t C i),I (tbO t C (i+1))]))]:=
 mOf (tb_T p) (chk_kind (sch0 p.h).1)
theorem ov_tail {ad:Int→Int→Int→Int} {R:Nat→Int} {s:Int×Int} {day:Int} {k n:Nat} (h: ∀ i,k≤i→i<n→R i≤day→R i≤(ovG ad R day s k).2): ∀ m,k≤m→m≤n→ovG ad R day s m=ovG ad R day s k
 |0,hm,_=>by rw[show k=0 by omega]
 |m+1,hm,hn=>by
  by_cases c:k=m+1
  ·rw[c]
  ·have ih:=ov_tail h m (by omega) (by omega)
   rw[ovG_n (fun q=>by rw[ih]at q;have:=h m (by omega) (by omega) q.2;omega),ih]
theorem se_next {L:Ln} {j:Nat} (hm: ∀ i k,i≤k→k<L.nr→L.R i≤L.R k) (hj:j+1<L.nr) (hf:L.fr=L.R j):seS L (L.R (j+1))=if L.R j<L.R (j+1)then(adB L L.du (L.R j) (L.R (j+1)),L.R (j+1))else(L.du,L.R (j+1)):=by
 unfold seS
 rw[mnI_l (hm (j+1) (L.nr-1) (by omega) (by omega))]
 by_cases c:L.R j<L.R (j+1)
 ·rw[if_pos c]
  have s1:ovG (adB L) L.R (L.R (j+1)) (L.du,L.fr) (j+1)=(L.du,L.fr):=ov_stay (k:=j+1) (fun i hi _=>by have:=hm i j (by omega) (by omega);show L.R i≤L.fr;omega) (j+1) (Nat.le_refl _)
  have s2:ovG (adB L) L.R (L.R (j+1)) (L.du,L.fr) (j+1+1)=(adB L L.du (L.R j) (L.R (j+1)),L.R (j+1)):=by
   rw[ovG_y (j:=j+1) (by rw[s1];exact⟨by show L.R (j+1)>L.fr;omega,Int.le_refl _⟩),s1,hf]
  have s3:=ov_tail (ad:=adB L) (R:=L.R) (s:=(L.du,L.fr)) (day:=L.R (j+1)) (k:=j+1+1) (n:=L.nr) (fun i _ _ h3=>by rw[s2];exact h3) L.nr (by omega) (Nat.le_refl _)
  unfold seG
  rw[s3,s2,if_neg (by show¬L.R (j+1)>L.R (j+1);omega)]
 ·rw[if_neg c]
  have e:L.R (j+1)=L.R j:=by have:=hm j (j+1) (by omega) hj;omega
  rw[e,Go.Proofs.YtelidogcomffkaaGreatDoor.se_stay (s:=(L.du,L.fr)) (fun i hi hd=>by show L.R i≤L.fr;omega) (by show L.R j≤L.fr;omega),hf]
theorem fol_se {t:Tms} {C:Cl} {U:Int} {L:Ln} (p:P36 t C) (g:Good t C U L) {j:Nat} (hj:j+1<tN t) (hd:L.du=0) (hf:L.fr=(tR t C j).1):
  seS L (tR t C (j+1)).1=((ofV L.op t.a2 (tP t C j).1 (tP t C j).2.1).1,(tR t C (j+1)).1):=by
 have hm:=chk_mon (sch0 p.h).1
 obtain⟨rd,rm⟩:=rol p.s p.h
 have gr:=good_grow p g
 have h1:=rm 0 j (by omega) (by omega)
 have h2:=rm j (j+1) (by omega) hj
 have h3:(tR t C (j+1)).1≤tE t C:=rm (j+1) (tN t-1) (by omega) (by omega)
 have nx:=se_next (L:=L) (j:=j) gr.mono (by rw[g.nr];exact hj) (by rw[g.R];exact hf)
 rw[g.R]at nx
 simp only at nx
 rw[nx,hd]
 by_cases c:(tR t C j).1<(tR t C (j+1)).1
 ·rw[if_pos c]
  obtain⟨q,e,q0,v,b⟩:=in_val p g h1 h2 h3
  have ei:inB L (tR t C j).1 (tR t C (j+1)).1=(ofV L.op t.a2 (tP t C j).1 (tP t C j).2.1).1:=by
   have e2:tP t C j=(q.num,(q.den:Int),0):=e
   unfold inB
   rw[g.tt,g.eo,g.en,g.fq,g.nk,g.V,e2]
   rw[show partC t.a4 (tR t C j).1 (tR t C (j+1)).1 t.a10 (tE t C) (frq t.a7) (tK t) (fun i=>(tQ t C i).1)=(q.num,(q.den:Int),0)from e]
   rfl
  unfold adB
  rw[Int.zero_add,W64_in (by rw[v];exact Int.natCast_nonneg _) (by omega),ei]
 ·rw[if_neg c]
  have e:(tR t C (j+1)).1=(tR t C j).1:=by omega
  have e2:tP t C j=(0,1,0):=by
   unfold tP
   rw[e]
   refine part_00 (chk_cnt (sch0 p.h).1) (rd j (by omega)) fun h6=> ?_
   obtain⟨ma,l1,l2⟩:=pC_6 p.s p.h h6
   exact⟨ma,by omega,by omega⟩
  have z:(ofV L.op t.a2 0 1).1=0:=by
   have hor:L.op*t.a2≤9000000000000000000:=Int.le_trans (Int.mul_le_mul_of_nonneg_right g.op.2 hm.2.2.1) hm.2.2.2
   obtain⟨v, -⟩:=ofV_in (q:=0) g.op.1 hm.2.2.1 hor (by decide) (by decide) (by decide)
   exact v.trans (by rw[show(0:Rat).num.toNat=0 from rfl,Nat.mul_zero,near_zero];rfl)
  rw[e2,z]
noncomputable def lFol_h0 (t:Tms) (C:Cl) (x1:Int) (x2:Int) (x3:Int) (x4:Int) (x5:Int) (x6:Int):SC:=
 ⟨[⟨4,slo 160 [(2, .ptr 2 0),(5,B true),(6, .ptr 12 0),(8, .sl 14 (plN t C-1)),(10,I (((plN t C-1):Nat):Int)),(11,I x1)],[.code (bodyAt Tryz.f4 [1,1,1,1,1,1,1,1,0,1,0,0]), .inLoop (bodyAt Tryz.f4 [1,1,1,1,1,1,1,1,0,1,0,0]), .inBlock 0, .code (bodyAt Tryz.f4 [1,1,1,1,1,1,1,1,1])],{}⟩],[some (.row false 109 C.nr 8 (fun i=>[I ((C.R i).kind),I ((C.R i).mon),I ((C.R i).day),I ((C.R i).k),I ((C.R i).off),I ((C.R i).sh),I ((C.R i).fr),I ((C.R i).to)])),some (.row false 3 C.nd 1 (fun i=>[I (C.D i)])),some (.box true [I t.a1,I t.a2,I t.a3,I t.a4,I t.a5,I t.a6,I t.a7,B (t.a8),B (t.a9),B (t.a10),I t.a11]),none,none,none,none,some (.row true 3 (plN t C) 1 (fun i=>[I (tD t i)])),some (.row true 3 (plN t C) 1 (fun i=>[I ((tR t C i).1)])),some (.row true 121 (plN t C-1) 2 (fun i=>[I ((tP t C i).1),I ((tP t C i).2.1)])),some (.row true 3 (plK t C) 1 (fun i=>[I ((tQ t C i).1)])),none,some (.box true [I t.a1,I t.a2,I t.a3,I t.a4,I t.a5,I t.a6,I t.a7,B (t.a8),B (t.a9),B (t.a10),I t.a11, .sl 7 (plN t C), .sl 8 (plN t C), .sl 9 (plN t C-1),B (plB t C),I (plE t C),I (plF t C), .sl 10 (plK t C),I x2,I x3,I x4,I x5,I x6]),none,some (.row true 65 (plN t C-1) 5 (fun i=>[I (tbO t C i),I (tbI t C i),I (tbB t C i),I (tbI t C i+tbB t C i),I (tbO t C (i+1))]))]⟩
theorem lFol_w0 {X:Cx} {t:Tms} {C:Cl} (hX:Fi X 4 (calH C) (B true) []) (H:((chk t.a1 t.a2 t.a3 t.a4 t.a5 t.a6 t.a7 t.a11)=0→((shP t C 36)=true→tSh t∧CalOk C∧((schE t C)=0→((0:Int)≤0∧0<(((plN t C):Nat):Int))∧P36 t C∧0=0∧(((plN t C-1):Nat):Int)=(((plN t C-1):Nat):Int)∧Ir ((((plN t C-1):Nat):Int)+1)∧(((plN t C):Nat):Int)=((((plN t C-1):Nat):Int)+1)∧Ok X (lFol_h0 t C 0 t.a1 0 ((tR t C 0).1) 0 0))))):
  Ok X (entry Tryz.prog 4 [.agg [I t.a1,I t.a2,I t.a3,I t.a4,I t.a5,I t.a6,I t.a7,B (t.a8),B (t.a9),B (t.a10),I t.a11], .agg [B (C.off 0),B (C.off 1),B (C.off 2),B (C.off 3),B (C.off 4),B (C.off 5),B (C.off 6), .sl 0 C.nr, .sl 1 C.nd]] (calH C)):=by
 refine hX.go [c_ [] shown22,c_ [] (rCheck t.a1 t.a2 t.a3 t.a4 t.a5 t.a6 t.a7 (t.a8) (t.a9) (t.a10) t.a11)] ?_
 by_cases h0:(chk t.a1 t.a2 t.a3 t.a4 t.a5 t.a6 t.a7 t.a11)=0
 ·have K1:=H h0
  refine hX.go [n_ 3 (f_ (bne_eq_false_iff_eq.2 h0)),c_ [0,1] (show S 11 [.agg [I t.a1,I t.a2,I t.a3,I t.a4,I t.a5,I t.a6,I t.a7,B (t.a8),B (t.a9),B (t.a10),I t.a11], .agg [B (C.off 0),B (C.off 1),B (C.off 2),B (C.off 3),B (C.off 4),B (C.off 5),B (C.off 6), .sl 0 C.nr, .sl 1 C.nd],I 36] (calH C) (B (shP t C 36)) []from rShort17 t (by decide)),f_ (bne_eq_false_iff_eq.2 h0),f_ (bne_eq_false_iff_eq.2 h0)] ?_
  rcases bcase (shP t C 36)with h1|h1
  ·obtain⟨h2,h3,K4⟩:=K1 h1
   refine hX.go [f_ (nf h1),i_,c_ [0,1] (show S 31 [.agg [I t.a1,I t.a2,I t.a3,I t.a4,I t.a5,I t.a6,I t.a7,B (t.a8),B (t.a9),B (t.a10),I t.a11], .agg [B (C.off 0),B (C.off 1),B (C.off 2),B (C.off 3),B (C.off 4),B (C.off 5),B (C.off 6), .sl 0 C.nr, .sl 1 C.nd]] (calH C) (.tup [.agg [.sl 2 (plN t C), .sl 3 (plN t C), .sl 4 (plN t C-1),B (plB t C),I (plE t C),I (plF t C), .sl 5 (plK t C)],I (schE t C)]) [some (.row true 3 (plN t C) 1 (fun i=>[I (tD t i)])),some (.row true 3 (plN t C) 1 (fun i=>[I ((tR t C i).1)])),some (.row true 121 (plN t C-1) 2 (fun i=>[I ((tP t C i).1),I ((tP t C i).2.1)])),some (.row true 3 (plK t C) 1 (fun i=>[I ((tQ t C i).1)]))]from sOf t h2 h3)] ?_
   by_cases h4:(schE t C)=0
   ·obtain⟨h5,h6,c7,K7⟩:=K4 h4
    refine hX.go [f_ (bne_eq_false_iff_eq.2 h4),q_ h5,q_ (show(plN t C)=(plN t C)from rfl),q_ h5,d_ 8,f_ rf,i_,c_ [9] (tOf22 t C h6)] ?_
    by_cases h7:0=0
    ·obtain⟨c8,K8⟩:=K7
     refine hX.go [n_ 7 (f_ (bne_eq_false_iff_eq.2 h7))] ?_
     by_cases h8:(((plN t C-1):Nat):Int)=(((plN t C-1):Nat):Int)
     ·obtain⟨h9,c10,K10⟩:=K8
      refine hX.go [n_ 6 (f_ (bne_eq_false_iff_eq.2 h8)),q_ h9,f_ (bne_eq_false_iff_eq.2 h8),f_ (bne_eq_false_iff_eq.2 h8)] ?_
      by_cases h10:(((plN t C):Nat):Int)=((((plN t C-1):Nat):Int)+1)
      ·have k:=K10
       exact hX.h 9 [f_ (bne_eq_false_iff_eq.2 h10)] [.old 0, .old 1, .old 2, .old 1003, .old 1004, .old 1005, .old 1006, .old 7, .old 8, .old 9, .old 10, .old 1011, .old 12, .old 1013, .old 14] k
      ·exact absurd c10 h10
     ·exact absurd c8 h8
    ·exact absurd c7 h7
   ·exact hX.e [t_ (bne_iff_ne.2 h4),t_ (bne_iff_ne.2 h4)]
  ·exact hX.e [t_ (nt h1)]
 ·exact hX.e [n_ 5 (t_ (bne_iff_ne.2 h0)),t_ rt]
theorem lFol_w1 {X:Cx} {t:Tms} {C:Cl} {x1 x2 x3 x4 x5 x6:Int} (hX:Fi X 4 (calH C) (B true) []) (H:(x1<(((plN t C-1):Nat):Int)→Ir (x1+1)∧((0:Int)≤(x1+1)∧(x1+1)<(((plN t C):Nat):Int))∧((0:Int)≤x1∧x1<(((plN t C-1):Nat):Int))∧x2=(tbO t C x1.toNat)∧(1≤(sL t C x2 x3 x4 x5 x6).nr∧(sL t C x2 x3 x4 x5 x6).nr≤100000)∧Ir (sL t C x2 x3 x4 x5 x6).op∧Ir (sL t C x2 x3 x4 x5 x6).t.a2∧PyOk (sL t C x2 x3 x4 x5 x6) ((tR t C ((x1+1).toNat)).1) (tbI t C x1.toNat+tbB t C x1.toNat)∧(((pyE (sL t C x2 x3 x4 x5 x6) ((tR t C ((x1+1).toNat)).1) (tbI t C x1.toNat+tbB t C x1.toNat))==0)&&(((pyA (sL t C x2 x3 x4 x5 x6) ((tR t C ((x1+1).toNat)).1) (tbI t C x1.toNat+tbB t C x1.toNat))==(tbI t C x1.toNat))&&(((pyB (sL t C x2 x3 x4 x5 x6) ((tR t C ((x1+1).toNat)).1) (tbI t C x1.toNat+tbB t C x1.toNat))==(tbB t C x1.toNat))&&(((pyC (sL t C x2 x3 x4 x5 x6) ((tR t C ((x1+1).toNat)).1) (tbI t C x1.toNat+tbB t C x1.toNat))==0)&&true))))=true∧((pyL (sL t C x2 x3 x4 x5 x6) ((tR t C ((x1+1).toNat)).1) (tbI t C x1.toNat+tbB t C x1.toNat)).op)=(tbO t C (x1.toNat+1))∧((pyL (sL t C x2 x3 x4 x5 x6) ((tR t C ((x1+1).toNat)).1) (tbI t C x1.toNat+tbB t C x1.toNat)).du)=0∧Ok X (lFol_h0 t C (x1+1) ((pyL (sL t C x2 x3 x4 x5 x6) ((tR t C ((x1+1).toNat)).1) (tbI t C x1.toNat+tbB t C x1.toNat)).op) ((pyL (sL t C x2 x3 x4 x5 x6) ((tR t C ((x1+1).toNat)).1) (tbI t C x1.toNat+tbB t C x1.toNat)).du) ((pyL (sL t C x2 x3 x4 x5 x6) ((tR t C ((x1+1).toNat)).1) (tbI t C x1.toNat+tbB t C x1.toNat)).fr) ((pyL (sL t C x2 x3 x4 x5 x6) ((tR t C ((x1+1).toNat)).1) (tbI t C x1.toNat+tbB t C x1.toNat)).ba) ((pyL (sL t C x2 x3 x4 x5 x6) ((tR t C ((x1+1).toNat)).1) (tbI t C x1.toNat+tbB t C x1.toNat)).it)))∧(¬x1<(((plN t C-1):Nat):Int)→((0:Int)≤(((plN t C-1):Nat):Int)∧(((plN t C-1):Nat):Int)<(((plN t C):Nat):Int))∧(1≤(sL t C x2 x3 x4 x5 x6).nr∧(sL t C x2 x3 x4 x5 x6).nr≤100000)∧Ir (sL t C x2 x3 x4 x5 x6).op∧Ir (sL t C x2 x3 x4 x5 x6).t.a2∧x2=0∧x3=0∧x5=t.a1∧(quV (sL t C x2 x3 x4 x5 x6) ((tR t C ((((plN t C-1):Nat):Int).toNat)).1))=0∧((goE ((tR t C ((((plN t C-1):Nat):Int).toNat)).1))==0)=true)):
  Ok X (lFol_h0 t C x1 x2 x3 x4 x5 x6):=by
 obtain⟨L0,K0⟩:=H
 by_cases h0:x1<(((plN t C-1):Nat):Int)
 ·obtain⟨h1,h2,h3,c4,K4⟩:=L0 h0
  refine hX.go [t_ (dt h0),q_ h1,q_ h2,q_ (show(plN t C)=(plN t C)from rfl),q_ h2,q_ h3,q_ (show(plN t C-1)=(plN t C-1)from rfl),q_ h3,q_ h3,d_ 7] ?_
  by_cases h4:x2=(tbO t C x1.toNat)
  ·obtain⟨h5,h6,h7,h8,c9,K9⟩:=K4
   refine hX.go [f_ (bne_eq_false_iff_eq.2 h4),q_ h3,q_ (show(plN t C-1)=(plN t C-1)from rfl),q_ h3,q_ h3,h_ [.draw 13 [10] 1],c_ [7,8,9,10] (lPay (sL t C x2 x3 x4 x5 x6) ((tR t C ((x1+1).toNat)).1) (tbI t C x1.toNat+tbB t C x1.toNat) h5 h6 h7 h8),q_ (show(.agg [I (pyE (sL t C x2 x3 x4 x5 x6) ((tR t C ((x1+1).toNat)).1) (tbI t C x1.toNat+tbB t C x1.toNat)),I (pyA (sL t C x2 x3 x4 x5 x6) ((tR t C ((x1+1).toNat)).1) (tbI t C x1.toNat+tbB t C x1.toNat)),I (pyB (sL t C x2 x3 x4 x5 x6) ((tR t C ((x1+1).toNat)).1) (tbI t C x1.toNat+tbB t C x1.toNat)),I (pyC (sL t C x2 x3 x4 x5 x6) ((tR t C ((x1+1).toNat)).1) (tbI t C x1.toNat+tbB t C x1.toNat))]:SV)= .agg [I (pyE (sL t C x2 x3 x4 x5 x6) ((tR t C ((x1+1).toNat)).1) (tbI t C x1.toNat+tbB t C x1.toNat)),I (pyA (sL t C x2 x3 x4 x5 x6) ((tR t C ((x1+1).toNat)).1) (tbI t C x1.toNat+tbB t C x1.toNat)),I (pyB (sL t C x2 x3 x4 x5 x6) ((tR t C ((x1+1).toNat)).1) (tbI t C x1.toNat+tbB t C x1.toNat)),I (pyC (sL t C x2 x3 x4 x5 x6) ((tR t C ((x1+1).toNat)).1) (tbI t C x1.toNat+tbB t C x1.toNat))]from rfl),q_ (show(.agg [I (pyE (sL t C x2 x3 x4 x5 x6) ((tR t C ((x1+1).toNat)).1) (tbI t C x1.toNat+tbB t C x1.toNat)),I (pyA (sL t C x2 x3 x4 x5 x6) ((tR t C ((x1+1).toNat)).1) (tbI t C x1.toNat+tbB t C x1.toNat)),I (pyB (sL t C x2 x3 x4 x5 x6) ((tR t C ((x1+1).toNat)).1) (tbI t C x1.toNat+tbB t C x1.toNat)),I (pyC (sL t C x2 x3 x4 x5 x6) ((tR t C ((x1+1).toNat)).1) (tbI t C x1.toNat+tbB t C x1.toNat))]:SV)= .agg [I (pyE (sL t C x2 x3 x4 x5 x6) ((tR t C ((x1+1).toNat)).1) (tbI t C x1.toNat+tbB t C x1.toNat)),I (pyA (sL t C x2 x3 x4 x5 x6) ((tR t C ((x1+1).toNat)).1) (tbI t C x1.toNat+tbB t C x1.toNat)),I (pyB (sL t C x2 x3 x4 x5 x6) ((tR t C ((x1+1).toNat)).1) (tbI t C x1.toNat+tbB t C x1.toNat)),I (pyC (sL t C x2 x3 x4 x5 x6) ((tR t C ((x1+1).toNat)).1) (tbI t C x1.toNat+tbB t C x1.toNat))]from rfl)] ?_
   rcases bcase (((pyE (sL t C x2 x3 x4 x5 x6) ((tR t C ((x1+1).toNat)).1) (tbI t C x1.toNat+tbB t C x1.toNat))==0)&&(((pyA (sL t C x2 x3 x4 x5 x6) ((tR t C ((x1+1).toNat)).1) (tbI t C x1.toNat+tbB t C x1.toNat))==(tbI t C x1.toNat))&&(((pyB (sL t C x2 x3 x4 x5 x6) ((tR t C ((x1+1).toNat)).1) (tbI t C x1.toNat+tbB t C x1.toNat))==(tbB t C x1.toNat))&&(((pyC (sL t C x2 x3 x4 x5 x6) ((tR t C ((x1+1).toNat)).1) (tbI t C x1.toNat+tbB t C x1.toNat))==0)&&true))))with h9|h9
   ·obtain⟨c10,K10⟩:=K9
    refine hX.go [q_ h3,q_ (show(plN t C-1)=(plN t C-1)from rfl),n_ 3 (q_ h3),q_ (show(plN t C-1)=(plN t C-1)from rfl),q_ h3,q_ h3,d_ 21,n_ 5 (f_ (nf h9)),q_ h3,q_ (show(plN t C-1)=(plN t C-1)from rfl),f_ (nf h9),q_ h3,f_ (nf h9),q_ h3,f_ (nf h9),f_ (nf h9)] ?_
    by_cases h10:((pyL (sL t C x2 x3 x4 x5 x6) ((tR t C ((x1+1).toNat)).1) (tbI t C x1.toNat+tbB t C x1.toNat)).op)=(tbO t C (x1.toNat+1))
    ·obtain⟨c11,K11⟩:=K10
     refine hX.go [n_ 4 (f_ (bne_eq_false_iff_eq.2 h10))] ?_
     by_cases h11:((pyL (sL t C x2 x3 x4 x5 x6) ((tR t C ((x1+1).toNat)).1) (tbI t C x1.toNat+tbB t C x1.toNat)).du)=0
     ·have k:=K11
      exact hX.h 13 [f_ (bne_eq_false_iff_eq.2 h11),q_ h1] [.old 0, .old 1, .old 2, .old 1003, .old 1004, .old 1005, .old 1006, .old 7, .old 8, .old 9, .old 10, .old 1011, .old 12, .old 1013, .old 14] k
     ·exact absurd c11 h11
    ·exact absurd c10 h10
   ·exact Go.Sx.nob c9 h9
  ·exact absurd c4 h4
 ·obtain⟨h1,h2,h3,h4,c5,K5⟩:=K0 h0
  refine hX.go [f_ (df h0),q_ h1,q_ (show(plN t C)=(plN t C)from rfl),q_ h1,d_ 12,c_ [7,8,9,10] (lQuote (sL t C x2 x3 x4 x5 x6) ((tR t C ((((plN t C-1):Nat):Int).toNat)).1) h2 h3 h4),n_ 4 (t_ rt)] ?_
  by_cases h5:x2=0
  ·obtain⟨c6,K6⟩:=K5
   refine hX.go [n_ 4 (t_ (beq_iff_eq.2 h5))] ?_
   by_cases h6:x3=0
   ·obtain⟨c7,K7⟩:=K6
    refine hX.go [n_ 6 (t_ (beq_iff_eq.2 h6))] ?_
    by_cases h7:x5=t.a1
    ·obtain⟨c8,K8⟩:=K7
     refine hX.go [n_ 3 (t_ (beq_iff_eq.2 h7))] ?_
     by_cases h8:(quV (sL t C x2 x3 x4 x5 x6) ((tR t C ((((plN t C-1):Nat):Int).toNat)).1))=0
     ·have HE:=K8
      exact(hX.to (congrArg B HE).symm).e [n_ 3 (t_ (beq_iff_eq.2 h8))]
     ·exact absurd c8 h8
    ·exact absurd c7 h7
   ·exact absurd c6 h6
  ·exact absurd c5 h5
theorem lFol_loop {X:Cx} {t:Tms} {C:Cl} (hX:Fi X 4 (calH C) (B true) []) (p:P36 t C):
  ∀ (f j:Nat) {it:Int},j+f=tN t-1→0≤it→it≤(j:Int)*40000000000000000→Ok X (lFol_h0 t C j (tbO t C j) 0 (tR t C j).1 (t.a1-tbO t C j) it):=by
 have hn:=tN_36 p
 have hmon:=chk_mon (sch0 p.h).1
 have T:=tb_T p
 have K:Bk (plN t C-1) t.a1 (tbK t C):=bk_T T
 have e1:=plN_t p
 obtain⟨rd,rm⟩:=rol p.s p.h
 have g0:=oL_good p
 have good: ∀ {j:Nat} {it:Int},j<tN t→0≤tbO t C j∧tbO t C j≤t.a1→Good t C 0 (sL t C (tbO t C j) 0 (tR t C j).1 (t.a1-tbO t C j) it):=fun {j it} hj ho=>
  ⟨g0.tt,g0.nr,g0.R,g0.eo,g0.en,g0.fq,g0.nk,g0.V,ho,⟨Int.le_refl _,Int.le_refl _⟩,⟨rm 0 j (by omega) hj,rm j (tN t-1) (by omega) (by omega)⟩⟩
 intro f
 induction f with
 |zero=>
  intro j it hj h0 h1
  have e2:tbO t C j=0:=by
   rw[show j=plN t C-1 by omega];exact bk_last T
  have g:=good (j:=j) (it:=it) (by omega) (by omega)
  have bs:=good_base p g
  have dj:isDay (tR t C j).1=true:=rd j (by omega)
  refine lFol_w1 hX ⟨fun q=>absurd q (by omega),fun _=> ?_⟩
  rw[Int.toNat_natCast,show plN t C-1=j by omega]
  refine⟨by omega,bs.1,bs.2.1,bs.2.2,e2,rfl,by omega, ?_,by rw[show goE (tR t C j).1=0 from if_pos dj];rfl⟩
  unfold quV
  rw[if_pos dj,seS_stay (show(tR t C j).1≤(tR t C j).1 from Int.le_refl _)]
  show W64 (0+tbO t C j)=0
  rw[e2];exact W64_in (by decide) (by decide)
 |succ f ih=>
  intro j it hj h0 h1
  obtain⟨b1,b2⟩:=K j (by omega)
  have b1:0≤tbO t C j∧tbO t C j≤t.a1:=b1
  have b2:0≤tbB t C j∧tbB t C j≤tbO t C j:=b2
  obtain⟨o1,o2,o3⟩:=T.f j (by omega) _ b1.1 b1.2
  have o2:0≤tbI t C j:=o2
  have o3:tbI t C j≤40000000000000000:=o3
  have e2:tbO t C (j+1)=tbO t C j-tbB t C j:=rfl
  have g:=good (j:=j) (it:=it) (by omega) b1
  have bs:=good_base p g
  have dj:isDay (tR t C (j+1)).1=true:=rd (j+1) (by omega)
  have se:=fol_se p g (j:=j) (by omega) rfl rfl
  have hle:=rm j (j+1) (by omega) (by omega)
  have he:=py_e (L:=sL t C (tbO t C j) 0 (tR t C j).1 (t.a1-tbO t C j) it) (n:=(tR t C (j+1)).1) (m:=tbI t C j+tbB t C j) dj hle (by omega)
  obtain⟨z1,z2,z3,z4,z5,z6,z7,z8⟩:=py_val he
  rw[show(seS (sL t C (tbO t C j) 0 (tR t C j).1 (t.a1-tbO t C j) it) (tR t C (j+1)).1).1=tbI t C j by rw[se];rfl]at z1 z2 z3 z4 z5 z7 z8
  rw[mnI_r (x:=tbI t C j+tbB t C j) (y:=tbI t C j) (by omega)]at z1 z2 z3 z4 z5 z7 z8
  rw[show(sL t C (tbO t C j) 0 (tR t C j).1 (t.a1-tbO t C j) it).op=tbO t C j from rfl,show tbI t C j+tbB t C j-tbI t C j=tbB t C j by omega,mnI_l (x:=tbB t C j) (y:=tbO t C j) (by omega)]at z2 z3 z4 z7
  rw[se]at z6
  have k:=ih (j+1) (it:=it+tbI t C j) (by omega) (by omega) (by omega)
  refine lFol_w1 hX ⟨fun q=> ?_,fun q=>absurd q (by omega)⟩
  rw[Int.toNat_natCast,show((j:Int)+1).toNat=j+1 by omega,he,z1,z2,z3,z4,z5,z6,z7,z8]
  refine⟨irT (by omega),by omega,by omega,rfl,bs.1,bs.2.1,bs.2.2,py_okS p g (by decide) (show 0≤t.a1-tbO t C j∧t.a1-tbO t C j≤_ by omega) (show 0≤it∧it≤_ by omega), ?_,e2.symm,by omega, ?_⟩
  ·simp
  ·rw[e2]at k
   rw[show t.a1-(tbO t C j-tbB t C j)=t.a1-tbO t C j+tbB t C j by omega]at k
   rw[show tbI t C j-tbI t C j=0 by omega]
   exact k
theorem lFollows (t:Tms) (C:Cl):S 4 [tmL t,calL C] (calH C) (B true) []:=by
 refine SCall.st fun X hX=>lFol_w0 hX fun(h0:tCk t=0) h=> ?_
 have hm:=shP_t h (by decide)
 refine⟨hm.2.1,hm.1,fun q=> ?_⟩
 have p:P36 t C:=⟨hm.2.1,q,by have:=hm.2.2 h0;omega⟩
 have hn:=tN_36 p
 have e1:=plN_t p
 have k:=lFol_loop hX p (tN t-1) 0 (it:=0) (by omega) (Int.le_refl _) (by omega)
 rw[show tbO t C 0=t.a1 from rfl,show t.a1-t.a1=0 by omega]at k
 exact⟨by omega,p,rfl,rfl,irT (by omega),by omega,k⟩
end Go.Proofs.YtelidogcomffkaaGreatDoor
