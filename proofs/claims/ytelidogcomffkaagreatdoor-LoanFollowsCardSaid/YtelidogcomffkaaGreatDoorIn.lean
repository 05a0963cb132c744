/-
Interest between days of a plan (plain): it is told, small, and grows.
-/
import Derived.Test.YtelidogcomffkaaGreatDoorSm
import Derived.Test.YtelidogcomffkaaGreatDoorOv
import Derived.Test.YtelidogcomffkaaGreatDoorProg
import Derived.KernelRfl
import Derived.Laws.Externs
set_option linter.unusedSectionVars false
set_option linter.unusedSimpArgs false
set_option linter.unusedVariables false
set_option maxRecDepth 100000
namespace Go.Proofs.YtelidogcomffkaaGreatDoor
open Go Go.Sx
theorem near_spec {x d:Nat} (hd:0<d):2*x≤2*(near x d*d)+d∧2*(near x d*d)≤2*x+d∧(2*x=2*(near x d*d)+d→near x d%2=0)∧(2*(near x d*d)=2*x+d→near x d%2=0):=by
 have hx:=Nat.div_add_mod' x d
 have hr:=Nat.mod_lt x hd
 unfold near
 obtain⟨q,hq⟩: ∃ q,x/d=q:=⟨_,rfl⟩
 obtain⟨r,hr'⟩: ∃ r,x%d=r:=⟨_,rfl⟩
 rw[hq,hr']at hx
 rw[hr']at hr
 rw[hq,hr']
 split
 ·rename_i c
  rw[Nat.add_mul,Nat.one_mul]
  obtain⟨p,hp⟩: ∃ p,q*d=p:=⟨_,rfl⟩
  rw[hp]at hx⊢
  refine⟨by omega,by omega,fun h=>by omega,fun h=>by omega⟩
 ·rename_i c
  obtain⟨p,hp⟩: ∃ p,q*d=p:=⟨_,rfl⟩
  rw[hp]at hx⊢
  refine⟨by omega,by omega,fun h=>by omega,fun h=>by omega⟩
theorem near_le (x d:Nat):near x d≤x/d+1:=by unfold near;split<;>omega
theorem near_zero (d:Nat):near 0 d=0:=by
 unfold near
 rw[Nat.zero_mod,Nat.zero_div,if_neg (by omega)]
theorem near_mono {x d y e:Nat} (hd:0<d) (he:0<e) (h:x*e≤y*d):near x d≤near y e:=by
 refine Nat.le_of_not_lt (fun c=> ?_)
 obtain⟨-,s2, -,s4⟩:=near_spec (x:=x) hd
 obtain⟨t1, -,t3, -⟩:=near_spec (x:=y) he
 obtain⟨q,hq⟩: ∃ q,near x d=q:=⟨_,rfl⟩
 obtain⟨p,hp⟩: ∃ p,near y e=p:=⟨_,rfl⟩
 rw[hq]at c s2 s4
 rw[hp]at c t1 t3
 have hD:0<d*e:=Nat.mul_pos hd he
 have h1:(2*(q*d))*e≤(2*x+d)*e:=Nat.mul_le_mul_right e s2
 have h2:(2*y)*d≤(2*(p*e)+e)*d:=Nat.mul_le_mul_right d t1
 have h3:(p+1)*(d*e)≤q*(d*e):=Nat.mul_le_mul_right _ c
 have e1:(2*(q*d))*e=2*(q*(d*e)):=by rw[Nat.mul_assoc,Nat.mul_assoc]
 have e2:(2*x+d)*e=2*(x*e)+d*e:=by rw[Nat.add_mul,Nat.mul_assoc]
 have e3:(2*y)*d=2*(y*d):=Nat.mul_assoc _ _ _
 have e4:(2*(p*e)+e)*d=2*(p*(d*e))+d*e:=by rw[Nat.add_mul,Nat.mul_assoc,Nat.mul_assoc,Nat.mul_comm e d]
 have e5:(p+1)*(d*e)=p*(d*e)+d*e:=by rw[Nat.add_mul,Nat.one_mul]
 rw[e1,e2]at h1
 rw[e3,e4]at h2
 rw[e5]at h3
 have f1:q*(d*e)=(p+1)*(d*e):=by rw[e5];omega
 have f2:(2*(q*d))*e=(2*x+d)*e:=by rw[e1,e2];omega
 have f3:(2*y)*d=(2*(p*e)+e)*d:=by rw[e3,e4];omega
 have g1:=Nat.eq_of_mul_eq_mul_right hD f1
 have g2:=s4 (Nat.eq_of_mul_eq_mul_right he f2)
 have g3:=t3 (Nat.eq_of_mul_eq_mul_right hd f3)
 omega
end Go.Proofs.YtelidogcomffkaaGreatDoor
namespace Go.Proofs.YtelidogcomffkaaGreatDoor
open Go Go.Sx
variable [Env]
theorem mkRat_zero' (M:Nat):mkRat ((0:Nat):Int) M=0:=by rw[Int.natCast_zero,Rat.zero_mkRat]
theorem mons_near (y:Int) (i:Nat) (h:i≤11):30*(i:Int)-1≤mons y i∧mons y i≤30*(i:Int)+5:=by
 have:i=0∨i=1∨i=2∨i=3∨i=4∨i=5∨i=6∨i=7∨i=8∨i=9∨i=10∨i=11:=by omega
 rcases this with rfl|rfl|rfl|rfl|rfl|rfl|rfl|rfl|rfl|rfl|rfl|rfl<;>cases hl:lp y<;>simp[mons,len,hl,lens]
theorem len_geB {y m:Int} (h1:1≤m) (h2:m≤12):28≤len y m:=by
 have:m=1∨m=2∨m=3∨m=4∨m=5∨m=6∨m=7∨m=8∨m=9∨m=10∨m=11∨m=12:=by omega
 rcases this with rfl|rfl|rfl|rfl|rfl|rfl|rfl|rfl|rfl|rfl|rfl|rfl<;>cases hl:lp y<;>simp[len,hl,lens]
theorem near7 {a b d1 d2:Int} (ha:isDay a=true) (hb:isDay b=true) (h:a≤b) (h1:cD a-2≤d1∧d1≤cD a+2) (h2:cD b-2≤d2∧d2≤cD b+2):
  n7 (cY a) (cM a) (cY b) (cM b) d1 d2≤b-a+10∧b-a≤n7 (cY a) (cM a) (cY b) (cM b) d1 d2+5*(cY b-cY a)+(cY b-cY a)/4+12∧365*(cY b-cY a)≤b-a+366∧0≤cY b-cY a:=by
 have hy:=yr_mono ha hb h
 obtain⟨-,a1,a2,a3,a4,a5,a6,a7,a8⟩:=civ_ok ha
 obtain⟨-,b1,b2,b3,b4,b5,b6,b7,b8⟩:=civ_ok hb
 have m1:=mons_near (cY a) (cM a-1).toNat (by omega)
 have m2:=mons_near (cY b) (cM b-1).toNat (by omega)
 have d:=day_yr ha
 have d':=day_yr hb
 have e:0≤ahd (cY b)-ahd (cY a)-365*(cY b-cY a)∧ahd (cY b)-ahd (cY a)-365*(cY b-cY a)≤(cY b-cY a)/4+1:=by unfold ahd;omega
 have e2:=ahd_succ (cY a) (by omega)
 unfold n7
 refine⟨by omega,by omega, ?_,by omega⟩
 split at e2<;>omega
theorem frac {k a b:Int} (hk:0≤k∧k≤5) (ha:isDay a=true) (hb:isDay b=true) (h:a≤b) (eom:Bool) (e f:Int) (n:Nat) (g:Nat→Int):
  ∃ C M:Nat,M≠0∧M≤133590∧C≤100000000000∧partC k a b eom e f n g=((mkRat (C:Int) M).num,((mkRat (C:Int) M).den:Int),0)∧
    360*(C:Int)-(b-a)*(M:Int)≤(60+(b-a)/50)*(M:Int)∧(b-a)*(M:Int)-360*(C:Int)≤(60+(b-a)/50)*(M:Int):=by
 have w:whyR a b=0:=why_0.2 ⟨ha,hb,by omega⟩
 have da:=isDay_iff.1 ha
 have db:=isDay_iff.1 hb
 have q: ∀ (u:Int) (d:Nat),0≤u→u≤100000000000→d≠0→d≤1000000→mkI u (d:Int)=((mkRat ((u.toNat:Nat):Int) d).num,((mkRat ((u.toNat:Nat):Int) d).den:Int),0):=fun u d q1 q2 q3 q4=>by
  have:=mkI_q (n:=u) (d:=(d:Int)) (by omega) (by omega)
  rw[Int.toNat_natCast]at this
  rw[this,show((u.toNat:Nat):Int)=u by omega]
 have ca:=civ_ok ha
 have cb:=civ_ok hb
 have seven: ∀ d:Int×Int,(cD a-2≤d.1∧d.1≤cD a+2)→(cD b-2≤d.2∧d.2≤cD b+2)→partC k a b eom e f n g=r7 a b d→ ∃ C M:Nat,M≠0∧M≤133590∧C≤100000000000∧partC k a b eom e f n g=((mkRat (C:Int) M).num,((mkRat (C:Int) M).den:Int),0)∧
   360*(C:Int)-(b-a)*(M:Int)≤(60+(b-a)/50)*(M:Int)∧(b-a)*(M:Int)-360*(C:Int)≤(60+(b-a)/50)*(M:Int):=fun d h1 h2 he=>by
  have hn:=near7 ha hb h h1 h2
  rw[he]
  unfold r7 p7
  rw[if_pos w]
  by_cases hneg:n7 (cY a) (cM a) (cY b) (cM b) d.1 d.2<0
  ·rw[if_pos hneg]
   refine⟨0,360,by decide,by decide,by decide,q 0 360 (by decide) (by decide) (by decide) (by decide),by omega,by omega⟩
  ·rw[if_neg hneg]
   refine⟨(n7 (cY a) (cM a) (cY b) (cM b) d.1 d.2).toNat,360,by decide,by decide,by omega,q _ 360 (by omega) (by omega) (by decide) (by decide),by omega,by omega⟩
 have hk':k=0∨k=1∨k=2∨k=3∨k=4∨k=5:=by omega
 have lastD: ∀ n,isDay n=true→lastB n=true→28≤cD n:=fun n hn hl=>by
  have c:=civ_ok hn
  have:=len_geB (y:=cY n) c.2.1 c.2.2.1
  unfold lastB at hl
  rw[hn,Bool.true_and,beq_iff_eq]at hl
  omega
 rcases hk' with rfl|rfl|rfl|rfl|rfl|rfl
 ·refine seven _ ?_ ?_ rfl
  ·show _≤(if(if(eom&&(lastB a&&(cM a==2)))=true then(30:Int)else cD a)=31 then(30:Int)else(if(eom&&(lastB a&&(cM a==2)))=true then(30:Int)else cD a))∧(if(if(eom&&(lastB a&&(cM a==2)))=true then(30:Int)else cD a)=31 then(30:Int)else(if(eom&&(lastB a&&(cM a==2)))=true then(30:Int)else cD a))≤_
   by_cases c1:(eom&&(lastB a&&(cM a==2)))=true
   ·have:=lastD a ha (by simp only[Bool.and_eq_true]at c1;exact c1.2.1)
    rw[if_pos c1];simp;omega
   ·rw[if_neg c1];split<;>omega
  ·simp only[usD]
   by_cases c2:(eom&&(lastB a&&(cM a==2))&&(lastB b&&(cM b==2)))=true
   ·have:=lastD b hb (by simp only[Bool.and_eq_true]at c2;exact c2.2.1)
    simp only[c2,if_true];split<;>omega
   ·simp only[c2,if_false,Bool.false_eq_true];split<;>omega
 ·refine seven _ ?_ ?_ rfl
  ·simp only;split<;>omega
  ·simp only;split<;>omega
 ·refine seven _ ?_ ?_ rfl
  ·simp only;split
   ·rename_i c;have:=lastD a ha c;omega
   ·omega
  ·simp only;split
   ·rename_i c;have:=lastD b hb c.1;omega
   ·omega
 ·refine⟨(b-a).toNat,360,by decide,by decide,by omega, ?_,by omega,by omega⟩
  rw[←q (b-a) 360 (by omega) (by omega) (by decide) (by decide)]
  show r8 a b 360=_
  unfold r8;rw[if_pos w];rfl
 ·refine⟨(b-a).toNat,365,by decide,by decide,by omega, ?_,by omega,by omega⟩
  rw[←q (b-a) 365 (by omega) (by omega) (by decide) (by decide)]
  show r8 a b 365=_
  unfold r8;rw[if_pos w];rfl
 ·have s1:=lD_span w
  refine⟨(b-a-(lD b-lD a)).toNat*366+(lD b-lD a).toNat*365,365*366,by decide,by decide,by omega, ?_,by omega,by omega⟩
  show r8Y a b=_
  unfold r8Y q8;rw[if_pos w]
theorem may2:mayB 2 (fun i=>[(1:Int),3652059].getD i 0) 2=true:=by decide+kernel
theorem q_small {C M:Nat} (hM:M≠0) (hM2:M≤133590) (hC:C≤100000000000):0≤(mkRat (C:Int) M).num∧(mkRat (C:Int) M).num≤4611686018427387904∧(mkRat (C:Int) M).den≤4611686018427387904:=by
 have h1:=num_le C hM
 have h2:=den_le C hM
 have h3:0≤(mkRat (C:Int) M).num:=by rw[num_nat C hM];exact Int.natCast_nonneg _
 omega
theorem zero_ok {k a b:Int} (hk:0≤k∧k≤6) (ha:isDay a=true) (hb:isDay b=true) (h:a≤b) (eom:Bool) (e:Int):
  ∃ q:Rat,0≤q.num∧q.num≤4611686018427387904∧q.den≤4611686018427387904∧partC k a b eom e 2 2 (fun i=>[(1:Int),3652059].getD i 0)=(q.num,(q.den:Int),0)∧(a=b→q=0):=by
 have da:=isDay_iff.1 ha
 have db:=isDay_iff.1 hb
 by_cases h6:k=6
 ·subst h6
  obtain⟨m1,m2,m3,m4,m5,m6,m7⟩:=may_facts may2
  have s:=psum_small (f:=2) (by decide) (by decide) m2 m6 m5 a b (Nat.le_refl (2-1))
  refine⟨psum a b 2 (fun i=>[(1:Int),3652059].getD i 0) (2-1),by omega,by omega,by omega, ?_,fun hab=>psum_zero (by omega) _⟩
  show partR a b 2 _ 2=_
  unfold partR
  rw[if_neg (by simp[ha,hb]),if_neg (by omega),if_neg (by rw[may2];simp;omega)]
  rfl
 ·obtain⟨C,M,hM,hM2,hC,he, -⟩:=frac (k:=k) (by omega) ha hb h eom e 2 2 (fun i=>[(1:Int),3652059].getD i 0)
  have s:=q_small hM hM2 hC
  refine⟨_,s.1,s.2.1,s.2.2,he,fun hab=> ?_⟩
  subst hab
  have w:whyR a a=0:=why_0.2 ⟨ha,ha,by omega⟩
  have z: ∀ d:Nat,d≠0→d≤1000→mkI 0 (d:Int)=(0,1,0):=fun d h1 h2=>by
   have:=mkI_q (n:=0) (d:=(d:Int)) (by omega) (by omega)
   rw[this,Rat.zero_mkRat];rfl
  have c:=civ_ok ha
  have sev: ∀ d:Int×Int,d.2≤d.1→r7 a a d=(0,1,0):=fun d hd=>by
   unfold r7 p7 n7
   rw[if_pos w]
   by_cases hlt:360*(cY a-cY a)+30*(cM a-cM a)+(d.2-d.1)<0
   ·rw[if_pos hlt];exact z 360 (by decide) (by decide)
   ·rw[if_neg hlt,show 360*(cY a-cY a)+30*(cM a-cM a)+(d.2-d.1)=0 by omega];exact z 360 (by decide) (by decide)
  have hz:partC k a a eom e 2 2 (fun i=>[(1:Int),3652059].getD i 0)=(0,1,0):=by
   have hk':k=0∨k=1∨k=2∨k=3∨k=4∨k=5:=by omega
   rcases hk' with rfl|rfl|rfl|rfl|rfl|rfl
   ·refine sev _ ?_
    simp only[usD]
    cases eom<;>cases(lastB a&&(cM a==2))<;>simp<;>repeat' split
    all_goals omega
   ·exact sev _ (by simp only;split<;>omega)
   ·refine sev _ ?_
    simp only
    by_cases hl:lastB a=true
    ·simp only[hl,if_true,true_and];split
     ·omega
     ·rename_i hh
      have hh':a=e∧cM a=2:=Classical.not_not.1 hh
      have:cD a=len (cY a) (cM a):=by unfold lastB at hl;rw[ha,Bool.true_and,beq_iff_eq]at hl;exact hl
      have h29:len (cY a) (cM a)≤29:=by rw[hh'.2];unfold len;rw[if_neg (by decide)];split<;>simp[lens]
      omega
    ·rw[if_neg hl,if_neg (fun q=>hl q.1)];omega
   ·show r8 a a 360=_
    unfold r8;rw[if_pos w,show a-a=0 by omega];exact z 360 (by decide) (by decide)
   ·show r8 a a 365=_
    unfold r8;rw[if_pos w,show a-a=0 by omega];exact z 365 (by decide) (by decide)
   ·show r8Y a a=_
    unfold r8Y q8;rw[if_pos w,show lD a-lD a=0 by omega,show a-a-0=0 by omega]
    show((mkRat ((0:Nat):Int) _).num,((mkRat ((0:Nat):Int) _).den:Int),(0:Int))=_
    rw[mkRat_zero'];rfl
  rw[hz]at he
  have e1:(mkRat (C:Int) M).num=0:=(Prod.mk.inj he).1.symm
  exact Rat.num_eq_zero.1 e1
end Go.Proofs.YtelidogcomffkaaGreatDoor
namespace Go.Proofs.YtelidogcomffkaaGreatDoor
open Go Go.Sx
variable [EnvT]
theorem chk_cnt {a1 a2 a3 a4 a5 a6 a7 r:Int} (h:chk a1 a2 a3 a4 a5 a6 a7 r=0):0≤a4∧a4≤6:=by
 unfold chk at h
 split at h
 ·exact absurd h (by decide)
 ·omega
end Go.Proofs.YtelidogcomffkaaGreatDoor
namespace Go.Proofs.YtelidogcomffkaaGreatDoor
open Go Go.Sx
variable [EnvT]
theorem frS_j {C:Cl} {n b:Int}: ∀ {f i:Nat},(frS C n b f i).2=0→ ∃ j:Nat,j<i+f∧(frS C n b f i).1=n+(j:Int)*b
 |0,i,h=>by simp[frS]at h
 |f+1,i,h=>by
  unfold frS at h⊢
  by_cases c:isDay (n+(i:Int)*b)=false
  ·rw[if_pos c]at h;simp at h
  ·rw[if_neg c]at h⊢
   by_cases d:bizB C (n+(i:Int)*b)=true
   ·rw[if_pos d];exact⟨i,by omega,rfl⟩
   ·rw[if_neg d]at h⊢
    obtain⟨j,h1,h2⟩:=frS_j h
    exact⟨j,by omega,h2⟩
theorem toV_near {C:Cl} {a k:Int} (ha:isDay a=true) (h:(toV C a k).2=0):a-61≤(toV C a k).1∧(toV C a k).1≤a+61:=by
 have p1:(frV C a 1).2=0→a-61≤(frV C a 1).1∧(frV C a 1).1≤a+61:=fun q=>by
  obtain⟨j,h1,h2⟩:=frS_j q
  rw[show(frV C a 1).1=a+(j:Int)*1 from h2];omega
 have p2:(frV C a (-1)).2=0→a-61≤(frV C a (-1)).1∧(frV C a (-1)).1≤a+61:=fun q=>by
  obtain⟨j,h1,h2⟩:=frS_j q
  rw[show(frV C a (-1)).1=a+(j:Int)*(-1)from h2];omega
 unfold toV at h⊢
 by_cases c:k<0∨k>4
 ·rw[if_pos c]at h;cases h
 ·rw[if_neg c]at h⊢
  by_cases c0:k=0
  ·rw[if_pos c0,if_neg (by rw[ha];decide)];exact⟨by show a-61≤a;omega,by show a≤a+61;omega⟩
  ·rw[if_neg c0]at h⊢
   by_cases c2:k≤2
   ·rw[if_pos c2]at h⊢
    split at h<;>rename_i q
    ·rw[if_pos q];exact p2 h
    ·rw[if_neg q];exact p1 h
   ·rw[if_neg c2]at h⊢
    split at h<;>rename_i q
    ·rw[if_pos q];exact p1 h
    ·rw[if_neg q];exact p2 h
theorem gN_le36 {s e mo:Int} {back eom:Bool} (h:Loan s e mo) (hs:e-s≤1116):gN s e mo back eom≤43:=by
 obtain⟨q1,q2,q3,q4,q5⟩:=cntG_ok (st:=stp s e mo back eom) (s:=s) (e:=e) 1300 0
 refine Nat.not_lt.1 fun c=> ?_
 unfold gN at c
 have z:=q3 42 (by omega) (by omega)
 have b:=btw_t.1 (q4 42 (by omega) (by omega) (by omega))
 have hm:=h.m1
 have hp:((42:Nat):Int)*mo=42*mo:=rfl
 cases back
 ·have:=(stp_far h (k:=42) (eom:=eom) (by omega)).1 z
  omega
 ·have:=(stp_far h (k:=42) (eom:=eom) (by omega)).2 z
  omega
theorem ratio_le {x M K:Nat} (hM:M≠0) (h:x≤K*M):(mkRat (x:Int) M).num≤(K:Int)*((mkRat (x:Int) M).den:Int):=by
 rw[num_nat x hM,den_nat x hM]
 have hg:0<Nat.gcd x M:=Nat.gcd_pos_of_pos_right _ (by omega)
 obtain⟨a,ha⟩:=Nat.gcd_dvd_left x M
 obtain⟨b,hb⟩:=Nat.gcd_dvd_right x M
 generalize Nat.gcd x M=g at hg ha hb⊢
 rw[Nat.div_eq_of_eq_mul_right hg ha,Nat.div_eq_of_eq_mul_right hg hb]
 have:g*a≤g*(K*b):=by rw[←ha,←Nat.mul_assoc,Nat.mul_comm g K,Nat.mul_assoc,←hb];exact h
 have:=Nat.le_of_mul_le_mul_left this hg
 rw[←Int.natCast_mul]
 exact Int.ofNat_le.2 this
theorem rol_far {t:Tms} {C:Cl} (hs:tSh t) (h:schE t C=0) (h36:t.a6-t.a5≤1116):tE t C-(tR t C 0).1≤1240:=by
 obtain⟨c,r, -, -⟩:=sch0 h
 have hn:=tN_le c hs
 have a:=toV_near (tD_day c hs (show 0<tN t by omega)) (r 0 (by omega))
 have b:=toV_near (tD_day c hs (show tN t-1<tN t by omega)) (r (tN t-1) (by omega))
 have e1:tD t 0=t.a5:=dV_zero
 have e2:tD t (tN t-1)=t.a6:=by rw[tN_eq c];exact dV_last
 rw[e1]at a
 rw[e2]at b
 show(toV C (tD t (tN t-1)) t.a11).1-(toV C (tD t 0) t.a11).1≤1240
 rw[e1,e2]
 omega
noncomputable def pC (t:Tms) (C:Cl) (a b:Int):Int×Int×Int:=partC t.a4 a b t.a10 (tE t C) (frq t.a7) (tK t) (fun i=>(tQ t C i).1)
theorem pC_6 {t:Tms} {C:Cl} (hs:tSh t) (h:schE t C=0) (h6:t.a4=6):mayB (tK t) (fun i=>(tQ t C i).1) (frq t.a7)=true∧(tQ t C 0).1≤(tR t C 0).1∧tE t C≤(tQ t C (tK t-1)).1:=by
 obtain⟨c,r, -,p⟩:=sch0 h
 obtain⟨rd,rm⟩:=rol hs h
 have hn:=tN_le c hs
 have p0:=p 0 (by omega)
 unfold tP at p0
 rw[h6]at p0
 obtain⟨m,l1, -, -⟩:=part6_q (rd 0 (by omega)) (rd 1 (by omega)) (rm 0 1 (by omega) (by omega)) p0
 have p1:=p (tN t-2) (by omega)
 unfold tP at p1
 rw[h6,show tN t-2+1=tN t-1 by omega]at p1
 obtain⟨-, -,l2, -⟩:=part6_q (rd (tN t-2) (by omega)) (rd (tN t-1) (by omega)) (rm _ _ (by omega) (by omega)) p1
 exact⟨m,l1,l2⟩
theorem pC_fit {t:Tms} {C:Cl} (hs:tSh t) (h:schE t C=0) (h36:t.a6-t.a5≤1116) {a b:Int} (h1:(tR t C 0).1≤a) (h2:a≤b) (h3:b≤tE t C):
  ∃ q:Rat,pC t C a b=(q.num,(q.den:Int),0)∧0≤q.num∧q.num≤44*(q.den:Int)∧q.den≤1000000000000000:=by
 obtain⟨c,r, -,p⟩:=sch0 h
 obtain⟨rd,rm⟩:=rol hs h
 have hn:=tN_le c hs
 have d0:=isDay_iff.1 (rd 0 (by omega))
 have d1:1≤tE t C∧tE t C≤3652059:=isDay_iff.1 (rd (tN t-1) (by omega))
 have ha:isDay a=true:=isDay_iff.2 (by omega)
 have hb:isDay b=true:=isDay_iff.2 (by omega)
 have hk:=chk_cnt c
 have hf:=rol_far hs h h36
 unfold pC
 by_cases h6:t.a4=6
 ·obtain⟨m,l1,l2⟩:=pC_6 hs h h6
  rw[h6]
  have e:=part6_of (eom:=t.a10) (e:=tE t C) ha hb h2 m (by omega) (by omega)
  obtain⟨m1,m2,m3,m4,m5,m6,m7⟩:=may_facts m
  have hG:tK t≤43:=by rw[show tK t=tG t from if_pos h6,tG_eq c];exact gN_le36 (tCk_loan c) h36
  obtain⟨M,g1,g2,g3⟩:=Go.Proofs.YtelidogcomffkaaGreatDoor.one_den (f:=(frq t.a7).toNat) (by omega) (by omega) m6 m5 a b
  obtain⟨x,g4,g5⟩:=psum_den g1 g3 (tK t-1) (Nat.le_refl _)
  have g6:x≤44*M:=Nat.le_trans g4 (Nat.mul_le_mul_right M (by omega))
  refine⟨_,e, ?_⟩
  rw[g5]
  have n2:=num_nat x g1
  have n3:=den_le x g1
  exact⟨by rw[n2];exact Int.natCast_nonneg _,ratio_le (K:=44) g1 g6,by omega⟩
 ·obtain⟨x,M,hM,hM2, -,e,u1, -⟩:=frac (k:=t.a4) (by omega) ha hb h2 t.a10 (tE t C) (frq t.a7) (tK t) (fun i=>(tQ t C i).1)
  have g6:x≤44*M:=by
   have v1:(b-a)*(M:Int)≤1240*(M:Int):=Int.mul_le_mul_of_nonneg_right (by omega) (by omega)
   have v2:(60+(b-a)/50)*(M:Int)≤100*(M:Int):=Int.mul_le_mul_of_nonneg_right (by omega) (by omega)
   omega
  refine⟨_,e, ?_⟩
  have n2:=num_nat x hM
  have n3:=den_le x hM
  exact⟨by rw[n2];exact Int.natCast_nonneg _,ratio_le (K:=44) hM g6,by omega⟩
theorem ofV_in {o r:Int} {q:Rat} (ho:0≤o) (hr:0≤r) (hor:o*r≤9000000000000000000) (h0:0≤q.num) (h1:q.num≤44*(q.den:Int)) (h2:q.den≤1000000000000000):
  (ofV o r q.num (q.den:Int)).1=((near (o.toNat*r.toNat*q.num.toNat) (10000*q.den):Nat):Int)∧near (o.toNat*r.toNat*q.num.toNat) (10000*q.den)≤40000000000000000:=by
 have hd:=q.den_pos
 obtain⟨O,rfl⟩:=Int.eq_ofNat_of_zero_le ho
 obtain⟨R,rfl⟩:=Int.eq_ofNat_of_zero_le hr
 have hor':O*R≤9000000000000000000:=by rw[←Int.natCast_mul]at hor;omega
 have hR:=right_q h0 (by omega) (by omega)
 unfold ofV rnd
 rw[if_pos hR,if_neg (by omega)]
 simp only[Int.toNat_natCast]
 rw[show(10000:Int).toNat=10000 from rfl]
 have hn:q.num.toNat≤44*q.den:=by omega
 have h3:O*R*q.num.toNat≤9000000000000000000*(44*q.den):=Nat.mul_le_mul hor' hn
 have h4:O*R*q.num.toNat/(10000*q.den)≤39600000000000000:=by
  refine Nat.le_of_lt_succ ((Nat.div_lt_iff_lt_mul (by omega)).2 ?_)
  rw[Nat.succ_mul];omega
 have h5:=near_le (O*R*q.num.toNat) (10000*q.den)
 rw[if_neg (by omega)]
 unfold tl
 rw[if_neg (by omega)]
 exact⟨rfl,by omega⟩
end Go.Proofs.YtelidogcomffkaaGreatDoor
