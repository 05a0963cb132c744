/-
Parts that add up, of all ways that count days that are (plain part of SchedSums).
-/
import Derived.Test.YtelidogcomffkaaGreatDoorS17
import Derived.Test.YtelidogcomffkaaGreatDoorProg
import Derived.KernelRfl
import Derived.Laws.Externs
set_option linter.unusedSectionVars false
set_option linter.unusedSimpArgs false
set_option linter.unusedVariables false
set_option maxRecDepth 100000
namespace Go.Proofs.YtelidogcomffkaaGreatDoor
open Go Go.Sx
variable [Env]
theorem ov_add {a b c lo hi:Int} (h1:a≤b) (h2:b≤c) (h3:lo≤hi):ov a b lo hi+ov b c lo hi=ov a c lo hi:=by
 unfold ov
 repeat' split
 all_goals omega
theorem mkRat_add_int (x y:Int) {M:Nat} (hM:M≠0):mkRat x M+mkRat y M=mkRat (x+y) M:=by
 rw[Rat.mkRat_add_mkRat _ _ hM hM,←Int.add_mul,Rat.mkRat_mul_right hM]
theorem term_add {a b c:Int} {f:Nat} {g:Nat→Int} {k:Nat} (hf:1≤f) (h1:a≤b) (h2:b≤c):term a b f g k+term b c f g k=term a c f g k:=by
 unfold term
 by_cases h:g k<g (k+1)
 ·rw[if_pos h,if_pos h,if_pos h,mkRat_add_int _ _ (Nat.mul_ne_zero (by omega) (by omega)),ov_add h1 h2 (by omega)]
 ·rw[if_neg h,if_neg h,if_neg h];exact Rat.add_zero 0
theorem psum_add {a b c:Int} {f:Nat} {g:Nat→Int} (hf:1≤f) (h1:a≤b) (h2:b≤c): ∀ k,psum a b f g k+psum b c f g k=psum a c f g k
 |0=>Rat.add_zero 0
 |k+1=>by
  show(psum a b f g k+term a b f g k)+(psum b c f g k+term b c f g k)=psum a c f g k+term a c f g k
  rw[←psum_add hf h1 h2 k,←term_add hf h1 h2,Rat.add_assoc,Rat.add_assoc,←Rat.add_assoc (term a b f g k),Rat.add_comm (term a b f g k) (psum b c f g k),Rat.add_assoc]
theorem psum_small {n:Nat} {g:Nat→Int} {f:Nat} (hf:1≤f) (hf2:f≤12) (hn:n≤1204) (hs: ∀ i,i<n-1→g i≤g (i+1)) (hd: ∀ i,i<n→1≤g i∧g i≤3652059) (a b:Int) {k:Nat} (hk:k≤n-1):
  0≤(psum a b f g k).num∧(psum a b f g k).num≤1203*160050331624368∧(psum a b f g k).den≤160050331624368:=by
 obtain⟨M,h1,h2,h3⟩:=one_den hf hf2 hs hd a b
 obtain⟨C,h4,h5⟩:=psum_den h1 h3 k hk
 have hkM:k*M≤1203*160050331624368:=Nat.mul_le_mul (by omega) h2
 rw[h5]
 have n1:=num_le C h1
 have n2:=num_nat C h1
 have n3:=den_le C h1
 exact⟨by rw[n2];exact Int.natCast_nonneg _,by omega,by omega⟩
theorem psum_zero {a b:Int} {f:Nat} {g:Nat→Int} (h:b≤a): ∀ k,psum a b f g k=0
 |0=>rfl
 |k+1=>by
  show psum a b f g k+term a b f g k=0
  rw[psum_zero h k]
  have: ∀ lo hi,ov a b lo hi=0:=fun lo hi=>by
   unfold ov
   repeat' split
   all_goals omega
  unfold term
  rw[this,Rat.zero_mkRat]
  split<;>exact Rat.add_zero 0
end Go.Proofs.YtelidogcomffkaaGreatDoor
namespace Go.Proofs.YtelidogcomffkaaGreatDoor
open Go Go.Sx
variable [Env]
theorem mons_mono (y:Int) {i j:Nat} (h:i≤j):mons y i≤mons y j:=by
 induction j with
 |zero=>have:i=0:=by omega
        subst this;exact Int.le_refl _
 |succ j ih=>
  by_cases h1:i=j+1
  ·subst h1;exact Int.le_refl _
  ·have:=ih (by omega)
   have:=(len_le y ((j+1:Nat):Int)).2
   show mons y i≤mons y j+len y ((j+1:Nat):Int)
   omega
def eN (n:Int):Int:=360*cY n+30*cM n+mnI (cD n) 30
theorem eN_mono {a b:Int} (ha:isDay a=true) (hb:isDay b=true) (h:a≤b):eN a≤eN b:=by
 have hy:=yr_mono ha hb h
 obtain⟨-,a1,a2,a3,a4,a5,a6,a7,a8⟩:=civ_ok ha
 obtain⟨-,b1,b2,b3,b4,b5,b6,b7,b8⟩:=civ_ok hb
 unfold eN mnI
 by_cases h1:cY a=cY b
 ·by_cases h2:cM a=cM b
  ·rw[h1,h2]at a8
   split<;>split<;>omega
  ·by_cases h3:cM a<cM b
   ·split<;>split<;>omega
   ·exfalso
    have e:(cM b-1).toNat+1≤(cM a-1).toNat:=by omega
    have:=mons_mono (cY b) e
    have e2:mons (cY b) ((cM b-1).toNat+1)=mons (cY b) (cM b-1).toNat+len (cY b) (((cM b-1).toNat+1:Nat):Int):=rfl
    rw[show((((cM b-1).toNat+1:Nat)):Int)=cM b by omega]at e2
    rw[h1]at a8
    omega
 ·split<;>split<;>omega
theorem lin_ok {k a b c:Int} (hk:k=1∨k=3∨k=4∨k=5) (ha:isDay a=true) (hb:isDay b=true) (hc:isDay c=true) (h1:a≤b) (h2:b≤c) (eom:Bool) (e f:Int) (n:Nat) (g:Nat→Int):
  ∃ M x y:Nat,M≠0∧M≤1000000∧x+y≤100000000000∧partC k a b eom e f n g=((mkRat (x:Int) M).num,((mkRat (x:Int) M).den:Int),0)∧partC k b c eom e f n g=((mkRat (y:Int) M).num,((mkRat (y:Int) M).den:Int),0)∧
    partC k a c eom e f n g=((mkRat ((x+y:Nat):Int) M).num,((mkRat ((x+y:Nat):Int) M).den:Int),0):=by
 have wab:whyR a b=0:=why_0.2 ⟨ha,hb,by omega⟩
 have wbc:whyR b c=0:=why_0.2 ⟨hb,hc,by omega⟩
 have wac:whyR a c=0:=why_0.2 ⟨ha,hc,by omega⟩
 have da:=isDay_iff.1 ha
 have db:=isDay_iff.1 hb
 have dc:=isDay_iff.1 hc
 have q: ∀ (u:Int) (d:Nat),0≤u→u≤100000000000→d≠0→d≤1000000→mkI u (d:Int)=((mkRat ((u.toNat:Nat):Int) d).num,((mkRat ((u.toNat:Nat):Int) d).den:Int),0):=fun u d q1 q2 q3 q4=>by
  have:=mkI_q (n:=u) (d:=(d:Int)) (by omega) (by omega)
  rw[Int.toNat_natCast]at this
  rw[this,show((u.toNat:Nat):Int)=u by omega]
 rcases hk with rfl|rfl|rfl|rfl
 ·have m1:=eN_mono ha hb h1
  have m2:=eN_mono hb hc h2
  have hB: ∀ n,isDay n=true→0≤eN n∧eN n≤4000000:=fun n hn=>by
   have:=civ_ok hn
   unfold eN mnI;split<;>omega
  have b1:=hB a ha
  have b2:=hB c hc
  have key: ∀ u v,whyR u v=0→isDay u=true→isDay v=true→eN u≤eN v→partC 1 u v eom e f n g=mkI (eN v-eN u) ((360:Nat):Int):=fun u v w hu hv hm=>by
   have c1:=civ_ok hu
   have c2:=civ_ok hv
   show r7E u v=_
   unfold r7E r7 p7 n7
   rw[if_pos w]
   have e1:(if cD u=31 then(30:Int)else cD u)=mnI (cD u) 30:=by unfold mnI;split<;>split<;>omega
   have e2:(if cD v=31 then(30:Int)else cD v)=mnI (cD v) 30:=by unfold mnI;split<;>split<;>omega
   simp only[e1,e2]
   rw[show 360*(cY v-cY u)+30*(cM v-cM u)+(mnI (cD v) 30-mnI (cD u) 30)=eN v-eN u by unfold eN;omega,if_neg (by omega)]
   rfl
  refine⟨360,(eN b-eN a).toNat,(eN c-eN b).toNat,by decide,by decide,by omega, ?_, ?_, ?_⟩
  ·rw[key a b wab ha hb m1];exact q _ _ (by omega) (by omega) (by decide) (by decide)
  ·rw[key b c wbc hb hc m2];exact q _ _ (by omega) (by omega) (by decide) (by decide)
  ·rw[key a c wac ha hc (by omega),q _ _ (by omega) (by omega) (by decide) (by decide),show(eN c-eN a).toNat=(eN b-eN a).toNat+(eN c-eN b).toNat by omega]
 ·have key: ∀ u v,whyR u v=0→partC 3 u v eom e f n g=mkI (v-u) ((360:Nat):Int):=fun u v w=>by
   show r8 u v 360=_
   unfold r8;rw[if_pos w];rfl
  refine⟨360,(b-a).toNat,(c-b).toNat,by decide,by decide,by omega, ?_, ?_, ?_⟩
  ·rw[key a b wab];exact q _ _ (by omega) (by omega) (by decide) (by decide)
  ·rw[key b c wbc];exact q _ _ (by omega) (by omega) (by decide) (by decide)
  ·rw[key a c wac,q _ _ (by omega) (by omega) (by decide) (by decide),show(c-a).toNat=(b-a).toNat+(c-b).toNat by omega]
 ·have key: ∀ u v,whyR u v=0→partC 4 u v eom e f n g=mkI (v-u) ((365:Nat):Int):=fun u v w=>by
   show r8 u v 365=_
   unfold r8;rw[if_pos w];rfl
  refine⟨365,(b-a).toNat,(c-b).toNat,by decide,by decide,by omega, ?_, ?_, ?_⟩
  ·rw[key a b wab];exact q _ _ (by omega) (by omega) (by decide) (by decide)
  ·rw[key b c wbc];exact q _ _ (by omega) (by omega) (by decide) (by decide)
  ·rw[key a c wac,q _ _ (by omega) (by omega) (by decide) (by decide),show(c-a).toNat=(b-a).toNat+(c-b).toNat by omega]
 ·have s1:=lD_span wab
  have s2:=lD_span wbc
  have s3:=lD_span wac
  have key: ∀ u v,whyR u v=0→partC 5 u v eom e f n g=((q8 (v-u-(lD v-lD u)) (lD v-lD u)).num,((q8 (v-u-(lD v-lD u)) (lD v-lD u)).den:Int),0):=fun u v w=>by
   show r8Y u v=_
   unfold r8Y;rw[if_pos w]
  refine⟨365*366,(b-a-(lD b-lD a)).toNat*366+(lD b-lD a).toNat*365,(c-b-(lD c-lD b)).toNat*366+(lD c-lD b).toNat*365,by decide,by decide,by omega, ?_, ?_, ?_⟩
  ·rw[key a b wab];rfl
  ·rw[key b c wbc];rfl
  ·rw[key a c wac]
   unfold q8
   rw[show(c-a-(lD c-lD a)).toNat*366+(lD c-lD a).toNat*365=(b-a-(lD b-lD a)).toNat*366+(lD b-lD a).toNat*365+((c-b-(lD c-lD b)).toNat*366+(lD c-lD b).toNat*365)by omega]
end Go.Proofs.YtelidogcomffkaaGreatDoor
namespace Go.Proofs.YtelidogcomffkaaGreatDoor
open Go Go.Sx
variable [EnvT]
variable {s e mo:Int} {long back eom:Bool}
theorem mIdx_mono {n n':Int} (h:isDay n=true) (h':isDay n'=true) (hn:n≤n'):mIdx n≤mIdx n':=by
 obtain⟨a1,a2,a3,a4,a5⟩:=day_idx h
 obtain⟨b1,b2,b3,b4,b5⟩:=day_idx h'
 refine Int.not_lt.1 fun c=> ?_
 have h1:=(mSt_le (m:=mIdx n'+1) (m':=mIdx n) (by omega) (by omega)).1
 have h2:=mSt_succ (m:=mIdx n') b1
 omega
end Go.Proofs.YtelidogcomffkaaGreatDoor
namespace Go.Proofs.YtelidogcomffkaaGreatDoor
open Go Go.Sx
variable [EnvT]
theorem schE_ck {t:Tms} {C:Cl} (h:schE t C=0):tCk t=0:=by
 unfold schE at h
 by_cases c:tCk t=0
 ·exact c
 ·rw[if_pos c]at h;exact absurd h c
theorem plN_le {t:Tms} {C:Cl} (hs:tSh t):plN t C≤252:=by
 unfold plN;split
 ·rename_i h;exact(tN_le (schE_ck h) hs).2
 ·omega
theorem plK_le {t:Tms} {C:Cl} (hs:tSh t):plK t C≤250:=by
 unfold plK;split
 ·rename_i h;unfold tK;split
  ·exact(tG_le (schE_ck h) hs).2
  ·omega
 ·omega
end Go.Proofs.YtelidogcomffkaaGreatDoor
namespace Go.Proofs.YtelidogcomffkaaGreatDoor
open Go Go.Sx
variable [EnvT]
theorem frS_to {C:Cl} {n b:Int}: ∀ {f i:Nat},(frS C n b f i).2=0→
  ∃ j:Nat,i≤j∧(frS C n b f i).1=n+(j:Int)*b∧bizB C (n+(j:Int)*b)=true∧ ∀ k:Nat,i≤k→k<j→bizB C (n+(k:Int)*b)=false
 |0,i,h=>by simp[frS]at h
 |f+1,i,h=>by
  unfold frS at h⊢
  by_cases c:isDay (n+(i:Int)*b)=false
  ·rw[if_pos c]at h;simp at h
  ·rw[if_neg c]at h⊢
   by_cases d:bizB C (n+(i:Int)*b)=true
   ·rw[if_pos d]
    exact⟨i,Nat.le_refl _,rfl,d,fun k h1 h2=>by omega⟩
   ·rw[if_neg d]at h⊢
    obtain⟨j,h1,h2,h3,h4⟩:=frS_to h
    refine⟨j,by omega,h2,h3,fun k k1 k2=> ?_⟩
    by_cases e:k=i
    ·subst e;exact Bool.eq_false_iff.2 d
    ·exact h4 k (by omega) k2
def FDay (C:Cl) (n m:Int):Prop:=n≤m∧bizB C m=true∧ ∀ x,n≤x→x<m→bizB C x=false
def PDay (C:Cl) (n m:Int):Prop:=m≤n∧bizB C m=true∧ ∀ x,m<x→x≤n→bizB C x=false
theorem frV_F {C:Cl} {n:Int} (h:(frV C n 1).2=0):FDay C n (frV C n 1).1:=by
 obtain⟨j, -,h2,h3,h4⟩:=frS_to h
 unfold FDay
 rw[show(frV C n 1).1=n+(j:Int)*1 from h2]
 refine⟨by omega,h3,fun x h5 h6=> ?_⟩
 have:=h4 (x-n).toNat (Nat.zero_le _) (by omega)
 rwa [show n+(((x-n).toNat:Nat):Int)*1=x by omega]at this
theorem frV_P {C:Cl} {n:Int} (h:(frV C n (-1)).2=0):PDay C n (frV C n (-1)).1:=by
 obtain⟨j, -,h2,h3,h4⟩:=frS_to h
 unfold PDay
 rw[show(frV C n (-1)).1=n+(j:Int)*(-1)from h2]
 refine⟨by omega,h3,fun x h5 h6=> ?_⟩
 have:=h4 (n-x).toNat (Nat.zero_le _) (by omega)
 rwa [show n+(((n-x).toNat:Nat):Int)*(-1)=x by omega]at this
theorem FF {C:Cl} {a b x y:Int} (h:FDay C a x) (g:FDay C b y) (hab:a≤b):x≤y:=by
 apply Classical.byContradiction
 intro c
 have:=h.2.2 y (by have:=g.1;omega) (by omega)
 rw[g.2.1]at this;cases this
theorem PP {C:Cl} {a b x y:Int} (h:PDay C a x) (g:PDay C b y) (hab:a≤b):x≤y:=by
 apply Classical.byContradiction
 intro c
 have:=g.2.2 x (by omega) (by have:=h.1;omega)
 rw[h.2.1]at this;cases this
theorem sm_mid {a b c:Int} (ha:isDay a=true) (hb:isDay b=true) (hc:isDay c=true) (h1:a≤b) (h2:b≤c) (h:smB a c=true):smB a b=true∧smB b c=true:=by
 unfold smB at h⊢
 simp only[Bool.and_eq_true,beq_iff_eq]at h⊢
 have e1:=mIdx_mono ha hb h1
 have e2:=mIdx_mono hb hc h2
 have c1:=civ_ok ha
 have c2:=civ_ok hb
 have c3:=civ_ok hc
 unfold mIdx at e1 e2
 omega
theorem sm_sym {a b:Int}:smB a b=smB b a:=by
 unfold smB
 rw[show(cY a==cY b)=(cY b==cY a)from Bool.beq_comm,show(cM a==cM b)=(cM b==cM a)from Bool.beq_comm]
theorem FP {C:Cl} {a b x y z:Int} (ha:isDay a=true) (hb:isDay b=true) (hab:a≤b) (h:FDay C a x) (hs:smB a x=true) (g:FDay C b z) (gs:smB b z=false) (p:PDay C b y):x≤y:=by
 apply Classical.byContradiction
 intro c
 by_cases d:x≤b
 ·have:=p.2.2 x (by omega) d
  rw[h.2.1]at this;cases this
 ·have h1:=FF h g hab
  have: ¬x<z:=fun q=>by
   have:=g.2.2 x (by omega) q
   rw[h.2.1]at this;cases this
  have e:z=x:=by omega
  subst e
  have:=(sm_mid ha hb (biz_day h.2.1) hab (by omega) hs).2
  rw[gs]at this;cases this
theorem PF {C:Cl} {a b x y z:Int} (ha:isDay a=true) (hb:isDay b=true) (hab:a≤b) (p:PDay C a z) (ps:smB a z=false) (h:FDay C a x) (g:PDay C b y) (gs:smB b y=true):x≤y:=by
 apply Classical.byContradiction
 intro c
 by_cases d:a≤y
 ·have:=h.2.2 y d (by omega)
  rw[g.2.1]at this;cases this
 ·have h1:=PP p g hab
  have: ¬z<y:=fun q=>by
   have:=p.2.2 y q (by omega)
   rw[g.2.1]at this;cases this
  have e:z=y:=by omega
  subst e
  rw[sm_sym]at gs ps
  have:=(sm_mid (biz_day g.2.1) ha hb (by omega) hab gs).1
  rw[ps]at this;cases this
theorem toV_mono {C:Cl} {a b k:Int} (ha:isDay a=true) (hb:isDay b=true) (hab:a≤b) (h:(toV C a k).2=0) (g:(toV C b k).2=0):(toV C a k).1≤(toV C b k).1:=by
 have hk:0≤k∧k≤4:=by
  apply Classical.byContradiction
  intro c
  unfold toV at h;rw[if_pos (by omega)]at h;cases h
 by_cases c0:k=0
 ·subst c0
  rw[show toV C a 0=(a,0)by unfold toV;rw[if_neg (by decide),if_pos rfl,if_neg (by rw[ha];decide)],show toV C b 0=(b,0)by unfold toV;rw[if_neg (by decide),if_pos rfl,if_neg (by rw[hb];decide)]]
  exact hab
 ·unfold toV at h g⊢
  rw[if_neg (by omega),if_neg c0]at h g⊢
  rw[if_neg (show¬(k<0∨k>4)by omega),if_neg c0]
  by_cases c2:k≤2
  ·rw[if_pos c2]at h g⊢
   rw[if_pos c2]
   split at h<;>rename_i q<;>split at g<;>rename_i r
   ·rw[if_pos q,if_pos r];exact PP (frV_P h) (frV_P g) hab
   ·rw[if_pos q,if_neg r]
    have:=(frV_P h).1;have:=(frV_F g).1;omega
   ·rw[if_neg q,if_pos r]
    refine FP ha hb hab (frV_F h) ?_ (frV_F r.2.1) r.2.2 (frV_P g)
    cases s:smB a (frV C a 1).1
    ·exact absurd ⟨r.1,h,s⟩ q
    ·rfl
   ·rw[if_neg q,if_neg r];exact FF (frV_F h) (frV_F g) hab
  ·rw[if_neg c2]at h g⊢
   rw[if_neg c2]
   split at h<;>rename_i q<;>split at g<;>rename_i r
   ·rw[if_pos q,if_pos r];exact FF (frV_F h) (frV_F g) hab
   ·rw[if_pos q,if_neg r]
    refine PF ha hb hab (frV_P q.2.1) q.2.2 (frV_F h) (frV_P g) ?_
    cases s:smB b (frV C b (-1)).1
    ·exact absurd ⟨q.1,g,s⟩ r
    ·rfl
   ·rw[if_neg q,if_pos r]
    have:=(frV_P h).1;have:=(frV_F g).1;omega
   ·rw[if_neg q,if_neg r];exact PP (frV_P h) (frV_P g) hab
theorem toV_biz {C:Cl} {a k:Int} (hk:k≠0) (h:(toV C a k).2=0):bizB C (toV C a k).1=true:=by
 unfold toV at h⊢
 by_cases c:k<0∨k>4
 ·rw[if_pos c]at h;cases h
 ·rw[if_neg c,if_neg hk]at h⊢
  split at h
  ·rename_i c2;rw[if_pos c2]
   split at h<;>rename_i q
   ·rw[if_pos q];exact(frV_P h).2.1
   ·rw[if_neg q];exact(frV_F h).2.1
  ·rename_i c2;rw[if_neg c2]
   split at h<;>rename_i q
   ·rw[if_pos q];exact(frV_F h).2.1
   ·rw[if_neg q];exact(frV_P h).2.1
theorem toV_day {C:Cl} {a k:Int} (ha:isDay a=true) (h:(toV C a k).2=0):isDay (toV C a k).1=true:=by
 by_cases c:k=0
 ·subst c
  rw[show toV C a 0=(a,0)by unfold toV;rw[if_neg (by decide),if_pos rfl,if_neg (by rw[ha];decide)]]
  exact ha
 ·exact biz_day (toV_biz c h)
theorem sch0 {t:Tms} {C:Cl} (h:schE t C=0):tCk t=0∧(∀ i,i<tN t→(tR t C i).2=0)∧(t.a4=6→ ∀ i,i<tG t→(tQ t C i).2=0)∧ ∀ i,i<tN t-1→(tP t C i).2.2=0:=by
 have c:=schE_ck h
 unfold schE at h
 rw[if_neg (by rw[c];decide)]at h
 by_cases r:fstE (fun i=>(tR t C i).2) (tN t)=0
 ·rw[if_neg (by rw[r];decide)]at h
  by_cases q:t.a4=6∧fstE (fun i=>(tQ t C i).2) (tG t)≠0
  ·rw[if_pos q]at h;exact absurd h q.2
  ·rw[if_neg q]at h
   exact⟨c,fun i hi=>fstE_0 r i hi,fun h6 i hi=>fstE_0 (Classical.byContradiction fun z=>q ⟨h6,z⟩) i hi,fun i hi=>fstE_0 h i hi⟩
 ·rw[if_pos r]at h;exact absurd h r
theorem tD_rise {t:Tms} (h0:tCk t=0) (hs:tSh t) {i:Nat} (hi:i+1<tN t):tD t i<tD t (i+1):=
 @dV_rise _ t.a5 t.a6 t.a7 t.a9 t.a8 t.a10 (tCk_loan h0) (hs h0) i (by rw[tN_eq h0]at hi;omega)
theorem tD_mono {t:Tms} (h0:tCk t=0) (hs:tSh t) {i:Nat}: ∀ {j:Nat},i≤j→j<tN t→tD t i≤tD t j
 |0,h1,_=>by rw[show i=0 by omega];exact Int.le_refl _
 |j+1,h1,h2=>by
  by_cases c:i=j+1
  ·rw[c];exact Int.le_refl _
  ·have:=tD_mono h0 hs (i:=i) (j:=j) (by omega) (by omega)
   have:=tD_rise h0 hs h2
   omega
theorem rol {t:Tms} {C:Cl} (hs:tSh t) (h:schE t C=0):(∀ i,i<tN t→isDay (tR t C i).1=true)∧ ∀ i j,i≤j→j<tN t→(tR t C i).1≤(tR t C j).1:=by
 obtain⟨c,r, -, -⟩:=sch0 h
 exact⟨fun i hi=>toV_day (tD_day c hs hi) (r i hi),fun i j hij hj=>toV_mono (tD_day c hs (by omega)) (tD_day c hs hj) (tD_mono c hs hij hj) (r i (by omega)) (r j hj)⟩
end Go.Proofs.YtelidogcomffkaaGreatDoor
namespace Go.Proofs.YtelidogcomffkaaGreatDoor
open Go Go.Sx
variable [EnvT]
theorem part6_q {a b:Int} {eom:Bool} {e f:Int} {n:Nat} {g:Nat→Int} (ha:isDay a=true) (hb:isDay b=true) (hab:a≤b) (h:(partC 6 a b eom e f n g).2.2=0):
  mayB n g f=true∧g 0≤a∧b≤g (n-1)∧partC 6 a b eom e f n g=((psum a b f.toNat g (n-1)).num,((psum a b f.toNat g (n-1)).den:Int),0):=by
 have e:partC 6 a b eom e f n g=partR a b n g f:=rfl
 rw[e]at h⊢
 unfold partR at h⊢
 rw[if_neg (by simp[ha,hb]),if_neg (by omega)]at h⊢
 split at h
 ·cases h
 ·rename_i c
  rw[if_neg c]
  refine⟨?_,by omega,by omega,rfl⟩
  cases q:mayB n g f
  ·exact absurd (.inl q) c
  ·rfl
theorem part6_of {a b:Int} {eom:Bool} {e f:Int} {n:Nat} {g:Nat→Int} (ha:isDay a=true) (hb:isDay b=true) (hab:a≤b) (h:mayB n g f=true) (h1:g 0≤a) (h2:b≤g (n-1)):
  partC 6 a b eom e f n g=((psum a b f.toNat g (n-1)).num,((psum a b f.toNat g (n-1)).den:Int),0):=by
 have e:partC 6 a b eom e f n g=partR a b n g f:=rfl
 rw[e]
 unfold partR
 rw[if_neg (by simp[ha,hb]),if_neg (by omega),if_neg (by rw[h];simp;omega)]
theorem part_0 {k a:Int} {eom:Bool} {e f:Int} {n:Nat} {g:Nat→Int} (hk:3≤k∧k≤6) (ha:isDay a=true) (h:k=6→mayB n g f=true∧g 0≤a∧a≤g (n-1)):
  partC k a a eom e f n g=(0,1,0):=by
 by_cases h6:k=6
 ·subst h6
  obtain⟨hm,h1,h2⟩:=h rfl
  rw[part6_of ha ha (Int.le_refl _) hm h1 h2,psum_zero (Int.le_refl _)];rfl
 ·obtain⟨M,x,y,hM,hM2,hxy,e1,e2,e3⟩:=lin_ok (k:=k) (by omega) ha ha ha (Int.le_refl _) (Int.le_refl _) eom e f n g
  have e4:=e1.symm.trans e3
  have e5:mkRat (x:Int) M=mkRat ((x+y:Nat):Int) M:=by
   simp only[Prod.mk.injEq]at e4
   exact Rat.ext e4.1 (by omega)
  have e6:mkRat (x:Int) M=mkRat (y:Int) M:=by
   have:=e1.symm.trans e2
   simp only[Prod.mk.injEq]at this
   exact Rat.ext this.1 (by omega)
  rw[Int.natCast_add,←mkRat_add_int _ _ hM,←e6]at e5
  have:mkRat (x:Int) M=0:=by
   generalize mkRat (x:Int) M=q at e5
   have:q+ -q=q+q+ -q:=congrArg (· + -q) e5
   rw[Rat.add_assoc,Rat.add_neg_cancel,Rat.add_zero]at this
   exact this.symm
  rw[e1,this];rfl
end Go.Proofs.YtelidogcomffkaaGreatDoor
