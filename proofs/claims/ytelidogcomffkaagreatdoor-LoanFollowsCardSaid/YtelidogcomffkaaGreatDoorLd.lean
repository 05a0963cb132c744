/-
Loans that are paid (chapter 22): what their functions tell; plain facts of them.
-/
import Derived.Test.YtelidogcomffkaaGreatDoorIn
set_option linter.unusedSectionVars false
set_option linter.unusedSimpArgs false
set_option linter.unusedVariables false
set_option maxRecDepth 100000
namespace Go.Proofs.YtelidogcomffkaaGreatDoor
open Go Go.Sx
variable [EnvT]
structure Ln where
 t:Tms
 nd:Nat
 D:Nat→Int
 nr:Nat
 R:Nat→Int
 np:Nat
 X:Nat→Int
 Y:Nat→Int
 eo:Bool
 en:Int
 fq:Int
 nk:Nat
 V:Nat→Int
 op:Int
 du:Int
 fr:Int
 ba:Int
 it:Int
abbrev lnL (L:Ln):SV:= .agg [I L.t.a1,I L.t.a2,I L.t.a3,I L.t.a4,I L.t.a5,I L.t.a6,I L.t.a7,B L.t.a8,B L.t.a9,B L.t.a10,I L.t.a11, .sl 0 L.nd, .sl 1 L.nr, .sl 2 L.np,B L.eo,I L.en,I L.fq, .sl 3 L.nk,I L.op,I L.du,I L.fr,I L.ba,I L.it]
abbrev lnH (L:Ln):List (Option Vw):=[ri L.nd L.D,ri L.nr L.R,some (.row false 121 L.np 2 (fun i=>[I (L.X i),I (L.Y i)])),ri L.nk L.V]
abbrev W64 (x:Int):Int:=IntKind.wrap .i64 x
theorem W64_in {x:Int} (h0:0≤x) (h1:x≤9000000000000000000):W64 x=x:=wrap_InR (by simp only[InR];omega)
abbrev Ln.w (L:Ln) (op du fr ba it:Int):Ln:={L with op:=op,du:=du,fr:=fr,ba:=ba,it:=it}
noncomputable def inB (L:Ln) (a b:Int):Int:=(btV (partC L.t.a4 a b L.eo L.en L.fq L.nk L.V) L.op L.t.a2).1
noncomputable def adB (L:Ln) (d f m:Int):Int:=W64 (d+inB L f m)
noncomputable def ovS (L:Ln) (day:Int) (j:Nat):Int×Int:=ovG (adB L) L.R day (L.du,L.fr) j
noncomputable def seS (L:Ln) (day:Int):Int×Int:=seG (adB L) L.R L.nr day (mnI day (L.R (L.nr-1))) (L.du,L.fr)
noncomputable def inE (L:Ln) (a b:Int):Int:=(btV (partC L.t.a4 a b L.eo L.en L.fq L.nk L.V) L.op L.t.a2).2
def goE (day:Int):Int:=if isDay day=true then 0 else 3
noncomputable def goL (L:Ln) (day:Int):Ln:=L.w L.op (if isDay day=true then(ovS L day L.nr).1 else L.du) (if isDay day=true then(ovS L day L.nr).2 else L.fr) L.ba L.it
noncomputable def owV (L:Ln) (day:Int):Int:=if isDay day=true then(seS L day).1 else 0
noncomputable def quV (L:Ln) (day:Int):Int:=if isDay day=true then W64 ((seS L day).1+L.op)else 0
def pyE (L:Ln) (n m:Int):Int:=if isDay n=false then 3 else if n<L.fr then 4 else if m<0∨m>9000000000000000000 then 2 else 0
noncomputable def pyA (L:Ln) (n m:Int):Int:=if pyE L n m=0 then mnI m (seS L n).1 else 0
noncomputable def pyB (L:Ln) (n m:Int):Int:=if pyE L n m=0 then mnI (m-mnI m (seS L n).1) L.op else 0
noncomputable def pyC (L:Ln) (n m:Int):Int:=if pyE L n m=0 then m-mnI m (seS L n).1-mnI (m-mnI m (seS L n).1) L.op else 0
noncomputable def pyL (L:Ln) (n m:Int):Ln:=
 L.w (if pyE L n m=0 then L.op-mnI (m-mnI m (seS L n).1) L.op else L.op) (if pyE L n m=0 then(seS L n).1-mnI m (seS L n).1 else L.du)
  (if pyE L n m=0 then(seS L n).2 else L.fr) (if pyE L n m=0 then L.ba+mnI (m-mnI m (seS L n).1) L.op else L.ba) (if pyE L n m=0 then L.it+mnI m (seS L n).1 else L.it)
def PyOk (L:Ln) (n m:Int):Prop:=pyE L n m=0→Ir (m-mnI m (seS L n).1)∧Ir ((seS L n).1-mnI m (seS L n).1)∧Ir (m-mnI m (seS L n).1-mnI (m-mnI m (seS L n).1) L.op)∧Ir (L.op-mnI (m-mnI m (seS L n).1) L.op)∧
 Ir (L.it+mnI m (seS L n).1)∧Ir (L.ba+mnI (m-mnI m (seS L n).1) L.op)
noncomputable def oL (t:Tms) (C:Cl):Ln:=⟨t,plN t C,tD t,plN t C,fun i=>(tR t C i).1,plN t C-1,fun i=>(tP t C i).1,fun i=>(tP t C i).2.1,plB t C,plE t C,plF t C,plK t C,fun i=>(tQ t C i).1,t.a1,0,(tR t C 0).1,0,0⟩
structure P36 (t:Tms) (C:Cl):Prop where
 s:tSh t
 h:schE t C=0
 m:t.a6-t.a5≤1116
structure Good (t:Tms) (C:Cl) (U:Int) (L:Ln):Prop where
 tt:L.t=t
 nr:L.nr=tN t
 R:L.R=fun i=>(tR t C i).1
 eo:L.eo=t.a10
 en:L.en=tE t C
 fq:L.fq=frq t.a7
 nk:L.nk=tK t
 V:L.V=fun i=>(tQ t C i).1
 op:0≤L.op∧L.op≤t.a1
 du:0≤L.du∧L.du≤U
 fr:(tR t C 0).1≤L.fr∧L.fr≤tE t C
theorem chk_rate {t:Tms} (h:tCk t=0):t.a2≤1000000:=by
 unfold tCk chk at h
 split at h
 ·cases h
 ·split at h
  ·cases h
  ·split at h
   ·cases h
   ·omega
theorem chk_mon {t:Tms} (h:tCk t=0):0≤t.a1∧t.a1≤1000000000000000∧0≤t.a2∧t.a1*t.a2≤9000000000000000000:=by
 unfold tCk chk at h
 split at h
 ·cases h
 ·split at h
  ·cases h
  ·split at h
   ·cases h
   ·omega
theorem oL_good {t:Tms} {C:Cl} (p:P36 t C):Good t C 0 (oL t C):=by
 obtain⟨c,r, -, -⟩:=sch0 p.h
 obtain⟨rd,rm⟩:=rol p.s p.h
 have hn:=tN_le c p.s
 have:=chk_mon c
 exact⟨rfl,if_pos p.h,rfl,if_pos p.h,if_pos p.h,if_pos p.h,if_pos p.h,rfl,⟨this.1,Int.le_refl _⟩,⟨Int.le_refl _,Int.le_refl _⟩,⟨Int.le_refl _,rm 0 (tN t-1) (by omega) (by omega)⟩⟩
theorem tN_36 {t:Tms} {C:Cl} (p:P36 t C):2≤tN t∧tN t≤44:=by
 obtain⟨c, -, -, -⟩:=sch0 p.h
 have hL:=tCk_loan c
 have a:=gN_le36 (back:=t.a8) (eom:=t.a10) hL p.m
 have b:=mN_le (back:=t.a8) (eom:=t.a10) hL (p.s c)
 have d:=dM_le (s:=t.a5) (e:=t.a6) (mo:=t.a7) (long:=t.a9) (back:=t.a8) (eom:=t.a10)
 have:=tN_le c p.s
 have:=tN_eq c
 omega
theorem in_val {t:Tms} {C:Cl} {U:Int} {L:Ln} (p:P36 t C) (g:Good t C U L) {a b:Int} (h1:(tR t C 0).1≤a) (h2:a≤b) (h3:b≤tE t C):
  ∃ q:Rat,pC t C a b=(q.num,(q.den:Int),0)∧0≤q.num∧inB L a b=((near (L.op.toNat*t.a2.toNat*q.num.toNat) (10000*q.den):Nat):Int)∧inB L a b≤40000000000000000:=by
 obtain⟨q,e,q1,q2,q3⟩:=pC_fit p.s p.h p.m h1 h2 h3
 have hm:=chk_mon (sch0 p.h).1
 have hor:L.op*t.a2≤9000000000000000000:=Int.le_trans (Int.mul_le_mul_of_nonneg_right g.op.2 hm.2.2.1) hm.2.2.2
 obtain⟨v1,v2⟩:=ofV_in (o:=L.op) (r:=t.a2) (q:=q) g.op.1 hm.2.2.1 hor q1 q2 q3
 have ei:inB L a b=(ofV L.op t.a2 q.num (q.den:Int)).1:=by
  unfold inB
  rw[g.tt,g.eo,g.en,g.fq,g.nk,g.V]
  rw[show partC t.a4 a b t.a10 (tE t C) (frq t.a7) (tK t) (fun i=>(tQ t C i).1)=(q.num,(q.den:Int),0)from e]
  rfl
 exact⟨q,e,q1,ei.trans v1,by rw[ei,v1];omega⟩
theorem good_grow {t:Tms} {C:Cl} {U:Int} {L:Ln} (p:P36 t C) (g:Good t C U L):Grow (inB L) L.R L.nr (tR t C 0).1 (tE t C):=by
 obtain⟨rd,rm⟩:=rol p.s p.h
 have hn:=tN_36 p
 rw[g.R,g.nr]
 refine⟨rm,fun i hi=>⟨rm 0 i (by omega) hi,rm i (tN t-1) (by omega) (by omega)⟩,fun f m h1 h2 h3=> ?_⟩
 obtain⟨q, -, -,e, -⟩:=in_val p g h1 h2 h3
 rw[e];exact Int.natCast_nonneg _
theorem mnI_le {x y:Int}:mnI x y≤x∧mnI x y≤y∧(mnI x y=x∨mnI x y=y):=by unfold mnI;split<;>omega
theorem last_e {t:Tms} {C:Cl} {U:Int} {L:Ln} (g:Good t C U L):L.R (L.nr-1)=tE t C:=by rw[g.R,g.nr];rfl
theorem se_good {t:Tms} {C:Cl} {U day:Int} {L:Ln} (p:P36 t C) (g:Good t C U L) (hU:U≤7000000000000000000):
  seS L day=seG (fun d f m=>d+inB L f m) L.R L.nr day (mnI day (tE t C)) (L.du,L.fr)∧0≤(seS L day).1∧(seS L day).1≤U+1800000000000000000∧(tR t C 0).1≤(seS L day).2∧(seS L day).2≤tE t C:=by
 have hn:=tN_36 p
 have hnr:=g.nr
 obtain⟨e,b1,b2,b3,b4⟩:=se_fit (s:=(L.du,L.fr)) (day:=day) (m:=mnI day (tE t C)) (wr:=W64) (U:=U) (fun x h0 h1=>W64_in h0 h1) (good_grow p g) (fun f m h1 h2 h3=>(in_val p g h1 h2 h3).choose_spec.2.2.2) ⟨g.du.1,g.du.2,g.fr.1,g.fr.2⟩ (by omega) mnI_le.2.1
 have e2:seS L day=seG (fun d f m=>W64 (d+inB L f m)) L.R L.nr day (mnI day (tE t C)) (L.du,L.fr):=by unfold seS;rw[last_e g];rfl
 rw[e2,e]
 exact⟨rfl,b1,by omega,b3,b4⟩
theorem ov_good {t:Tms} {C:Cl} {U day:Int} {L:Ln} (p:P36 t C) (g:Good t C U L) (hU:U≤7000000000000000000):
  ovS L day L.nr=ovG (fun d f m=>d+inB L f m) L.R day (L.du,L.fr) L.nr∧0≤(ovS L day L.nr).1∧(ovS L day L.nr).1≤U+1800000000000000000∧(tR t C 0).1≤(ovS L day L.nr).2∧(ovS L day L.nr).2≤tE t C:=by
 have hn:=tN_36 p
 have hnr:=g.nr
 obtain⟨e,b1,b2,b3,b4⟩:=ov_fit (s:=(L.du,L.fr)) (day:=day) (wr:=W64) (U:=U) (fun x h0 h1=>W64_in h0 h1) (good_grow p g) (fun f m h1 h2 h3=>(in_val p g h1 h2 h3).choose_spec.2.2.2) ⟨g.du.1,g.du.2,g.fr.1,g.fr.2⟩ (by omega) L.nr (Nat.le_refl _)
 have e2:ovS L day L.nr=ovG (fun d f m=>W64 (d+inB L f m)) L.R day (L.du,L.fr) L.nr:=rfl
 rw[e2,e]
 exact⟨rfl,b1,by omega,b3,b4⟩
theorem ovS_stay {L:Ln} {day:Int} (h:day≤L.fr) (j:Nat):ovS L day j=(L.du,L.fr):=
 ov_stay (s:=(L.du,L.fr)) (k:=j) (fun i _ hd=>by show L.R i≤L.fr;omega) j (Nat.le_refl _)
theorem seS_stay {L:Ln} {day:Int} (h:day≤L.fr):seS L day=(L.du,L.fr):=
 Go.Proofs.YtelidogcomffkaaGreatDoor.se_stay (s:=(L.du,L.fr)) (fun i _ hd=>by show L.R i≤L.fr;omega) (by have:=(mnI_le (x:=day) (y:=L.R (L.nr-1))).1;show mnI day (L.R (L.nr-1))≤L.fr;omega)
theorem seS_again {L x:Ln} {day:Int} (h1:x.R=L.R) (h2:x.nr=L.nr) (h3:x.fr=(seS L day).2):seS x day=(x.du,x.fr):=by
 have g:=se_ge (ad:=adB L) (R:=L.R) (s:=(L.du,L.fr)) (n:=L.nr) (day:=day) (m:=mnI day (L.R (L.nr-1)))
 unfold seS
 rw[h1,h2]
 exact Go.Proofs.YtelidogcomffkaaGreatDoor.se_stay (s:=(x.du,x.fr)) (fun i hi hd=>by have:=g.1 i hi hd;show L.R i≤x.fr;rw[h3];exact this) (by show _≤x.fr;rw[h3];exact g.2.1)
theorem in_zero {t:Tms} {C:Cl} {U:Int} {L:Ln} (p:P36 t C) (g:Good t C U L) (h:L.op=0) {a b:Int} (h1:(tR t C 0).1≤a) (h2:a≤b) (h3:b≤tE t C):inB L a b=0:=by
 obtain⟨q, -, -,e, -⟩:=in_val p g h1 h2 h3
 rw[e,h,Int.toNat_zero,Nat.zero_mul,Nat.zero_mul,near_zero];rfl
theorem se_zero {t:Tms} {C:Cl} {U:Int} {L:Ln} (p:P36 t C) (g:Good t C U L) (hU:U≤7000000000000000000) (h:L.op=0) (day:Int):(seS L day).1=L.du:=by
 rw[(se_good (day:=day) p g hU).1]
 have hg:=good_grow p g
 have k:=ov_inv (ad:=fun d f m=>d+inB L f m) (R:=L.R) (s:=(L.du,L.fr)) (day:=day) (n:=L.nr) (fun _ s=>s.1=L.du∧(tR t C 0).1≤s.2∧s.2≤tE t C) ⟨rfl,g.fr⟩ (fun j s hj hp q1 q2=>by
  have hb:=hg.bd j hj
  exact⟨by show s.1+inB L s.2 (L.R j)=_;rw[in_zero p g h hp.2.1 (by omega) hb.2,hp.1];omega,hb⟩) (fun _ _ _ q=>q) L.nr (Nat.le_refl _)
 have hl:=(mnI_le (x:=day) (y:=tE t C)).2.1
 unfold seG
 split
 ·rename_i c
  show(ovG (fun d f m=>d+inB L f m) L.R day (L.du,L.fr) L.nr).1+inB L _ _=_
  rw[in_zero p g h k.2.1 (by omega) hl,k.1];omega
 ·exact k.1
theorem py_e {L:Ln} {n m:Int} (hd:isDay n=true) (hn:L.fr≤n) (hm:0≤m∧m≤9000000000000000000):pyE L n m=0:=by
 unfold pyE;rw[if_neg (by rw[hd];decide),if_neg (by omega),if_neg (by omega)]
theorem py_val {L:Ln} {n m:Int} (he:pyE L n m=0):
  pyA L n m=mnI m (seS L n).1∧pyB L n m=mnI (m-mnI m (seS L n).1) L.op∧pyC L n m=m-mnI m (seS L n).1-mnI (m-mnI m (seS L n).1) L.op∧
   (pyL L n m).op=L.op-mnI (m-mnI m (seS L n).1) L.op∧(pyL L n m).du=(seS L n).1-mnI m (seS L n).1∧(pyL L n m).fr=(seS L n).2∧
   (pyL L n m).ba=L.ba+mnI (m-mnI m (seS L n).1) L.op∧(pyL L n m).it=L.it+mnI m (seS L n).1:=
 ⟨if_pos he,if_pos he,if_pos he,if_pos he,if_pos he,if_pos he,if_pos he,if_pos he⟩
theorem py_okk {t:Tms} {C:Cl} {U:Int} {L:Ln} (p:P36 t C) (g:Good t C U L) (hU:U≤7000000000000000000) {n m:Int} (hb:0≤L.ba∧L.ba≤1000000000000000) (hi:0≤L.it∧L.it≤100000000000000000):PyOk L n m:=by
 intro he
 obtain⟨-,b1,b2, -, -⟩:=se_good (day:=n) p g hU
 have hmon:=chk_mon (sch0 p.h).1
 have ho:=g.op
 have hm:0≤m∧m≤9000000000000000000:=by
  apply Classical.byContradiction
  intro c
  unfold pyE at he
  split at he
  ·cases he
  ·split at he
   ·cases he
   ·rw[if_pos (by omega)]at he;cases he
 have a1:=mnI_le (x:=m) (y:=(seS L n).1)
 have a2:=mnI_le (x:=m-mnI m (seS L n).1) (y:=L.op)
 exact⟨irT (by omega),irT (by omega),irT (by omega),irT (by omega),irT (by omega),irT (by omega)⟩
theorem py_good {t:Tms} {C:Cl} {U:Int} {L:Ln} (p:P36 t C) (g:Good t C U L) (hU:U≤7000000000000000000) {n m:Int} (hd:isDay n=true) (hn:L.fr≤n) (hm:0≤m∧m≤9000000000000000000):Good t C (U+1800000000000000000) (pyL L n m):=by
 obtain⟨-, -, -,h1,h2,h3, -, -⟩:=py_val (py_e hd hn hm)
 obtain⟨-,b1,b2,b3,b4⟩:=se_good (day:=n) p g hU
 have ho:=g.op
 have a1:=mnI_le (x:=m) (y:=(seS L n).1)
 have a2:=mnI_le (x:=m-mnI m (seS L n).1) (y:=L.op)
 exact⟨g.tt,g.nr,g.R,g.eo,g.en,g.fq,g.nk,g.V,by rw[h1];omega,by rw[h2];omega,by rw[h3];exact⟨b3,b4⟩⟩
theorem go_good {t:Tms} {C:Cl} {U:Int} {L:Ln} (p:P36 t C) (g:Good t C U L) (hU:U≤7000000000000000000) {n:Int} (hd:isDay n=true):Good t C (U+1800000000000000000) (goL L n):=by
 obtain⟨-,b1,b2,b3,b4⟩:=ov_good (day:=n) p g hU
 refine⟨g.tt,g.nr,g.R,g.eo,g.en,g.fq,g.nk,g.V,g.op, ?_, ?_⟩
 ·show 0≤(if isDay n=true then _ else _)∧(if isDay n=true then _ else _)≤_;rw[if_pos hd];exact⟨b1,b2⟩
 ·show _≤(if isDay n=true then _ else _)∧(if isDay n=true then _ else _)≤_;rw[if_pos hd];exact⟨b3,b4⟩
theorem good_base {t:Tms} {C:Cl} {U:Int} {L:Ln} (p:P36 t C) (g:Good t C U L):(1≤L.nr∧L.nr≤100000)∧Ir L.op∧Ir L.t.a2:=by
 have hn:=tN_36 p
 have hm:=chk_mon (sch0 p.h).1
 have hr:=chk_rate (sch0 p.h).1
 have ho:=g.op
 rw[g.nr,g.tt]
 exact⟨by omega,irT (by omega),irT (by omega)⟩
def LnEq (x y:Ln):Prop:=x=y∧x.nd≤10000∧x.nr≤10000∧x.nk≤10000∧x.np≤10000
theorem lnEq_of {t:Tms} {C:Cl} (p:P36 t C) {x y:Ln} (h:x=y) (h1:x.nd=plN t C) (h2:x.nr=plN t C) (h3:x.nk=plK t C) (h4:x.np=plN t C-1):LnEq x y:=by
 have a:=plN_le (t:=t) (C:=C) p.s
 have b:=plK_le (t:=t) (C:=C) p.s
 exact⟨h,by omega,by omega,by omega,by omega⟩
theorem mnI_l {x y:Int} (h:x≤y):mnI x y=x:=by unfold mnI;split<;>omega
theorem mnI_r {x y:Int} (h:y≤x):mnI x y=y:=by unfold mnI;split<;>omega
theorem seS_le {L:Ln} {day:Int} (h:L.fr≤day):(seS L day).2≤day:=se_le (s:=(L.du,L.fr)) h mnI_le.1
theorem pyL_e {L:Ln} {n m:Int} (he:pyE L n m=0):pyL L n m=L.w (L.op-mnI (m-mnI m (seS L n).1) L.op) ((seS L n).1-mnI m (seS L n).1) (seS L n).2 (L.ba+mnI (m-mnI m (seS L n).1) L.op) (L.it+mnI m (seS L n).1):=by
 unfold pyL
 rw[if_pos he,if_pos he,if_pos he,if_pos he,if_pos he]
theorem py_two {L:Ln} {n a b:Int} (ha:0≤a) (hb:0≤b) (hD:0≤(seS L n).1) (hO:0≤L.op) (e1:pyE L n a=0) (e2:pyE (pyL L n a) n b=0) (e3:pyE L n (a+b)=0):
  pyA L n a+pyA (pyL L n a) n b=pyA L n (a+b)∧pyB L n a+pyB (pyL L n a) n b=pyB L n (a+b)∧pyC L n a+pyC (pyL L n a) n b=pyC L n (a+b)∧pyL (pyL L n a) n b=pyL L n (a+b):=by
 obtain⟨a1,a2,a3,a4,a5,a6,a7,a8⟩:=py_val e1
 obtain⟨b1,b2,b3,b4,b5,b6,b7,b8⟩:=py_val e2
 obtain⟨c1,c2,c3,c4,c5,c6,c7,c8⟩:=py_val e3
 have hs:seS (pyL L n a) n=((pyL L n a).du,(pyL L n a).fr):=seS_again (L:=L) rfl rfl a6
 have q1:(seS (pyL L n a) n).1=(seS L n).1-mnI a (seS L n).1:=by rw[hs];exact a5
 have q2:(seS (pyL L n a) n).2=(seS L n).2:=by rw[hs];exact a6
 rw[pyL_e e2,pyL_e e3]
 rw[a1,a2,a3,b1,b2,b3,c1,c2,c3,q1,q2,a4,a7,a8]
 generalize (seS L n).1=D at hD⊢
 generalize (seS L n).2=F
 generalize hO':L.op=O at hO⊢
 have m1:=mnI_le (x:=a) (y:=D)
 have m2:=mnI_le (x:=a-mnI a D) (y:=O)
 have m3:=mnI_le (x:=b) (y:=D-mnI a D)
 have m4:=mnI_le (x:=b-mnI b (D-mnI a D)) (y:=O-mnI (a-mnI a D) O)
 have m5:=mnI_le (x:=a+b) (y:=D)
 have m6:=mnI_le (x:=a+b-mnI (a+b) D) (y:=O)
 generalize mnI a D=A1 at m1 m2 m3 m4 m5 m6⊢
 generalize mnI (a-A1) O=B1 at m2 m4 m6⊢
 generalize mnI b (D-A1)=A2 at m3 m4 m6⊢
 generalize mnI (b-A2) (O-B1)=B2 at m4 m6⊢
 generalize mnI (a+b) D=A at m5 m6⊢
 generalize mnI (a+b-A) O=B at m6⊢
 have k1:A1+A2=A:=by omega
 have k2:B1+B2=B:=by omega
 refine⟨k1,k2,by omega, ?_⟩
 have k3:pyL L n a=L.w (pyL L n a).op (pyL L n a).du (pyL L n a).fr (pyL L n a).ba (pyL L n a).it:=rfl
 rw[k3]
 show L.w _ _ _ _ _=L.w _ _ _ _ _
 rw[show O-B1-B2=O-B by omega,show D-A1-A2=D-A by omega,show L.ba+B1+B2=L.ba+B by omega,show L.it+A1+A2=L.it+A by omega]
end Go.Proofs.YtelidogcomffkaaGreatDoor
