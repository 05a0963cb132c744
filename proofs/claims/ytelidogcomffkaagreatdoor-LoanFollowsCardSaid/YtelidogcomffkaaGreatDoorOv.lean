/-
Rolled days gone over, one by one (plain).
-/
import Derived.KernelRfl
set_option linter.unusedSectionVars false
set_option linter.unusedSimpArgs false
set_option linter.unusedVariables false
namespace Go.Proofs.YtelidogcomffkaaGreatDoor
def ovG (ad:Int→Int→Int→Int) (R:Nat→Int) (day:Int) (s:Int×Int):Nat→Int×Int
 |0=>s
 |j+1=>if R j>(ovG ad R day s j).2∧R j≤day then(ad (ovG ad R day s j).1 (ovG ad R day s j).2 (R j),R j)else ovG ad R day s j
def seG (ad:Int→Int→Int→Int) (R:Nat→Int) (n:Nat) (day m:Int) (s:Int×Int):Int×Int:=
 if m>(ovG ad R day s n).2 then(ad (ovG ad R day s n).1 (ovG ad R day s n).2 m,m)else ovG ad R day s n
variable {ad:Int→Int→Int→Int} {R:Nat→Int} {s:Int×Int}
theorem ovG_y {day:Int} {j:Nat} (h:R j>(ovG ad R day s j).2∧R j≤day):ovG ad R day s (j+1)=(ad (ovG ad R day s j).1 (ovG ad R day s j).2 (R j),R j):=if_pos h
theorem ovG_n {day:Int} {j:Nat} (h: ¬(R j>(ovG ad R day s j).2∧R j≤day)):ovG ad R day s (j+1)=ovG ad R day s j:=if_neg h
theorem ov_inv {day:Int} {n:Nat} (P:Nat→Int×Int→Prop) (h0:P 0 s) (hs: ∀ j s,j<n→P j s→R j>s.2→R j≤day→P (j+1) (ad s.1 s.2 (R j),R j)) (hn: ∀ j s,j<n→P j s→P (j+1) s):
  ∀ j,j≤n→P j (ovG ad R day s j)
 |0,_=>h0
 |j+1,h=>by
  have ih:=ov_inv P h0 hs hn j (by omega)
  by_cases c:R j>(ovG ad R day s j).2∧R j≤day
  ·rw[ovG_y c];exact hs j _ (by omega) ih c.1 c.2
  ·rw[ovG_n c];exact hn j _ (by omega) ih
theorem ov_pre {a b:Int} {k:Nat} (h: ∀ i,i<k→R i≤a) (hab:a≤b): ∀ j,j≤k→ovG ad R a s j=ovG ad R b s j
 |0,_=>rfl
 |j+1,hj=>by
  have ih:=ov_pre h hab j (by omega)
  have:=h j (by omega)
  unfold ovG
  rw[ih]
  by_cases c:R j>(ovG ad R b s j).2
  ·rw[if_pos ⟨c,this⟩,if_pos ⟨c,by omega⟩]
  ·rw[if_neg (fun q=>c q.1),if_neg (fun q=>c q.1)]
theorem ov_post {a:Int} {k n:Nat} (h: ∀ i,k≤i→i<n→a<R i): ∀ j,k≤j→j≤n→ovG ad R a s j=ovG ad R a s k
 |0,hj,_=>by rw[show k=0 by omega]
 |j+1,hj,hn=>by
  by_cases c:k=j+1
  ·rw[c]
  ·have:=h j (by omega) (by omega)
   rw[ovG_n (fun q=>by omega)]
   exact ov_post h j (by omega) (by omega)
theorem ov_ge {day:Int}: ∀ j,s.2≤(ovG ad R day s j).2∧ ∀ i,i<j→R i≤day→R i≤(ovG ad R day s j).2
 |0=>⟨Int.le_refl _,fun i hi=>absurd hi (Nat.not_lt_zero _)⟩
 |j+1=>by
  obtain⟨h1,h2⟩:=ov_ge (day:=day) j
  by_cases c:R j>(ovG ad R day s j).2∧R j≤day
  ·rw[ovG_y c]
   refine⟨by show s.2≤R j;omega,fun i hi hd=> ?_⟩
   show R i≤R j
   by_cases e:i=j
   ·subst e;exact Int.le_refl _
   ·have:=h2 i (by omega) hd;omega
  ·rw[ovG_n c]
   refine⟨h1,fun i hi hd=> ?_⟩
   by_cases e:i=j
   ·subst e;exact Int.not_lt.1 fun q=>c ⟨q,hd⟩
   ·exact h2 i (by omega) hd
theorem ov_stay {day:Int} {k:Nat} (h: ∀ i,i<k→R i≤day→R i≤s.2): ∀ j,j≤k→ovG ad R day s j=s
 |0,_=>rfl
 |j+1,hj=>by
  have ih:=ov_stay h j (by omega)
  rw[ovG_n (fun q=>by rw[ih]at q;have:=h j (by omega) q.2;omega),ih]
theorem ov_on {b:Int} {k:Nat} (h: ∀ i,i<k→R i≤b→R i≤(ovG ad R b s k).2): ∀ m,ovG ad R b (ovG ad R b s k) (k+m)=ovG ad R b s (k+m)
 |0=>ov_stay h k (Nat.le_refl _)
 |m+1=>by
  have ih:=ov_on h m
  show ovG ad R b (ovG ad R b s k) (k+m+1)=ovG ad R b s (k+m+1)
  unfold ovG
  rw[ih]
theorem cut_at {n:Nat} (hm: ∀ i j,i≤j→j<n→R i≤R j) (a:Int): ∀ m,m≤n→ ∃ k,k≤m∧(∀ i,i<k→R i≤a)∧ ∀ i,k≤i→i<m→a<R i
 |0,_=>⟨0,Nat.le_refl _,fun i hi=>absurd hi (Nat.not_lt_zero _),fun i h1 h2=>by omega⟩
 |m+1,h=>by
  obtain⟨k,h1,h2,h3⟩:=cut_at hm a m (by omega)
  by_cases c:R m≤a
  ·refine⟨m+1,Nat.le_refl _,fun i hi=> ?_,fun i q1 q2=>by omega⟩
   have:=hm i m (by omega) (by omega);omega
  ·refine⟨k,by omega,h2,fun i q1 q2=> ?_⟩
   by_cases e:i=m
   ·subst e;omega
   ·exact h3 i q1 (by omega)
theorem ov_two {n:Nat} {a b:Int} (hm: ∀ i j,i≤j→j<n→R i≤R j) (hab:a≤b):ovG ad R b (ovG ad R a s n) n=ovG ad R b s n:=by
 obtain⟨k,h1,h2,h3⟩:=cut_at hm a n (Nat.le_refl _)
 rw[ov_post h3 n h1 (Nat.le_refl _),ov_pre h2 hab k (Nat.le_refl _)]
 have:=ov_on (ad:=ad) (R:=R) (s:=s) (b:=b) (k:=k) (fun i hi hb=>(ov_ge k).2 i hi hb) (n-k)
 rwa [show k+(n-k)=n by omega]at this
theorem se_two {n:Nat} {a b m:Int} (hm: ∀ i j,i≤j→j<n→R i≤R j) (hab:a≤b):seG ad R n b m (ovG ad R a s n)=seG ad R n b m s:=by
 unfold seG;rw[ov_two hm hab]
theorem ov_all {n:Nat} {a b:Int} (ha: ∀ i,i<n→R i≤a) (hb: ∀ i,i<n→R i≤b): ∀ j,j≤n→ovG ad R a s j=ovG ad R b s j
 |0,_=>rfl
 |j+1,hj=>by
  have ih:=ov_all ha hb j (by omega)
  have:=ha j (by omega)
  have:=hb j (by omega)
  unfold ovG
  rw[ih]
  by_cases c:R j>(ovG ad R b s j).2
  ·rw[if_pos ⟨c,by omega⟩,if_pos ⟨c,by omega⟩]
  ·rw[if_neg (fun q=>c q.1),if_neg (fun q=>c q.1)]
theorem se_ge {n:Nat} {day m:Int}:(∀ i,i<n→R i≤day→R i≤(seG ad R n day m s).2)∧m≤(seG ad R n day m s).2∧s.2≤(seG ad R n day m s).2:=by
 have hg:=ov_ge (ad:=ad) (R:=R) (s:=s) (day:=day) n
 unfold seG;split
 ·rename_i c
  refine⟨fun i hi hd=> ?_,Int.le_refl _, ?_⟩
  ·have:=hg.2 i hi hd;show R i≤m;omega
  ·have:=hg.1;show s.2≤m;omega
 ·rename_i c;exact⟨hg.2,by omega,hg.1⟩
theorem se_stay {n:Nat} {day m:Int} (h1: ∀ i,i<n→R i≤day→R i≤s.2) (h2:m≤s.2):seG ad R n day m s=s:=by
 have e:ovG ad R day s n=s:=ov_stay h1 n (Nat.le_refl _)
 unfold seG
 rw[e,if_neg (by omega)]
theorem ov_day {day:Int} (h:s.2≤day): ∀ j,(ovG ad R day s j).2≤day
 |0=>h
 |j+1=>by
  by_cases c:R j>(ovG ad R day s j).2∧R j≤day
  ·rw[ovG_y c];exact c.2
  ·rw[ovG_n c];exact ov_day h j
theorem se_le {n:Nat} {day m:Int} (h:s.2≤day) (hm:m≤day):(seG ad R n day m s).2≤day:=by
 unfold seG;split
 ·exact hm
 ·exact ov_day h n
theorem ov_plain {ad':Int→Int→Int→Int} {day:Int} {n:Nat} {P:Nat→Int×Int→Prop} (h0:P 0 s) (hs: ∀ j s,j<n→P j s→R j>s.2→R j≤day→ad s.1 s.2 (R j)=ad' s.1 s.2 (R j)∧P (j+1) (ad' s.1 s.2 (R j),R j))
  (hn: ∀ j s,j<n→P j s→P (j+1) s): ∀ j,j≤n→ovG ad R day s j=ovG ad' R day s j∧P j (ovG ad' R day s j)
 |0,_=>⟨rfl,h0⟩
 |j+1,h=>by
  obtain⟨ih,hp⟩:=ov_plain h0 hs hn j (by omega)
  by_cases c:R j>(ovG ad' R day s j).2∧R j≤day
  ·obtain⟨q1,q2⟩:=hs j _ (by omega) hp c.1 c.2
   rw[ovG_y (by rw[ih];exact c),ovG_y c,ih,q1]
   exact⟨rfl,q2⟩
  ·rw[ovG_n (by rw[ih];exact c),ovG_n c]
   exact⟨ih,hn j _ (by omega) hp⟩
structure Grow (g:Int→Int→Int) (R:Nat→Int) (n:Nat) (lo hi:Int):Prop where
 mono: ∀ i j,i≤j→j<n→R i≤R j
 bd: ∀ i,i<n→lo≤R i∧R i≤hi
 nn: ∀ f m,lo≤f→f≤m→m≤hi→0≤g f m
theorem ov_in {g:Int→Int→Int} {n:Nat} {lo hi day:Int} (h:Grow g R n lo hi) (hs:lo≤s.2∧s.2≤hi): ∀ j,j≤n→lo≤(ovG (fun d f m=>d+g f m) R day s j).2∧(ovG (fun d f m=>d+g f m) R day s j).2≤hi:=
 ov_inv (fun _ s=>lo≤s.2∧s.2≤hi) hs (fun j _ hj _ _ _=>h.bd j hj) (fun _ _ _ q=>q)
theorem ov_grow {g:Int→Int→Int} {n:Nat} {lo hi day:Int} (h:Grow g R n lo hi) (hs:lo≤s.2∧s.2≤hi): ∀ m j,j+m≤n→(ovG (fun d f m=>d+g f m) R day s j).1≤(ovG (fun d f m=>d+g f m) R day s (j+m)).1
 |0,j,_=>Int.le_refl _
 |m+1,j,hj=>by
  have ih:=ov_grow (day:=day) h hs m j (by omega)
  have hin:=ov_in (day:=day) h hs (j+m) (by omega)
  have hb:=h.bd (j+m) (by omega)
  show _≤(ovG (fun d f m=>d+g f m) R day s (j+m+1)).1
  by_cases c:R (j+m)>(ovG (fun d f m=>d+g f m) R day s (j+m)).2∧R (j+m)≤day
  ·rw[ovG_y c]
   have:=h.nn _ (R (j+m)) hin.1 (by omega) hb.2
   show _≤(ovG (fun d f m=>d+g f m) R day s (j+m)).1+g _ _
   omega
  ·rw[ovG_n c];exact ih
theorem se_mono {g:Int→Int→Int} {n:Nat} {lo hi a b ma mb:Int} (h:Grow g R n lo hi) (up: ∀ f m m',lo≤f→f≤m→m≤m'→m'≤hi→g f m≤g f m') (hs:lo≤s.2∧s.2≤hi) (hab:a≤b) (h1:ma≤a) (h2:ma≤mb) (h3:mb≤hi):
  (seG (fun d f m=>d+g f m) R n a ma s).1≤(seG (fun d f m=>d+g f m) R n b mb s).1:=by
 obtain⟨k,k1,k2,k3⟩:=cut_at h.mono a n (Nat.le_refl _)
 have hin:=ov_in (day:=b) h hs k k1
 have hfin:=ov_in (day:=b) h hs n (Nat.le_refl _)
 have ea:ovG (fun d f m=>d+g f m) R a s n=ovG (fun d f m=>d+g f m) R b s k:=by rw[ov_post k3 n k1 (Nat.le_refl _),ov_pre k2 hab k (Nat.le_refl _)]
 have hge: ∀ x,(ovG (fun d f m=>d+g f m) R b s n).1≥x→(seG (fun d f m=>d+g f m) R n b mb s).1≥x:=fun x hx=>by
  unfold seG;split
  ·rename_i c
   have:=h.nn _ mb hfin.1 (by omega) h3
   show(ovG (fun d f m=>d+g f m) R b s n).1+g _ _≥x
   omega
  ·exact hx
 by_cases c:k<n∧R k≤b
 ·apply hge
  have g1:=ov_grow (day:=b) h hs (n-(k+1)) (k+1) (by omega)
  rw[show k+1+(n-(k+1))=n by omega]at g1
  have g0:=ov_grow (day:=b) h hs 1 k (by omega)
  have hk:=k3 k (Nat.le_refl _) c.1
  have hb:=h.bd k c.1
  refine Int.le_trans ?_ g1
  unfold seG;rw[ea];split
  ·rename_i q
   rw[ovG_y ⟨by omega,c.2⟩]
   have:=up _ ma (R k) hin.1 (by omega) (by omega) hb.2
   show(ovG (fun d f m=>d+g f m) R b s k).1+g _ ma≤(ovG (fun d f m=>d+g f m) R b s k).1+g _ (R k)
   omega
  ·exact g0
 ·have eb:ovG (fun d f m=>d+g f m) R b s n=ovG (fun d f m=>d+g f m) R b s k:=ov_post (fun i i1 i2=>by
   have:=h.mono k i i1 i2
   by_cases e:k<n
   ·have: ¬R k≤b:=fun q=>c ⟨e,q⟩
    omega
   ·omega) n k1 (Nat.le_refl _)
  unfold seG;rw[ea,eb]
  split<;>split
  ·rename_i q r
   have:=up _ ma mb hin.1 (by omega) h2 h3
   show(ovG (fun d f m=>d+g f m) R b s k).1+g _ ma≤(ovG (fun d f m=>d+g f m) R b s k).1+g _ mb
   omega
  ·omega
  ·rename_i q r
   have:=h.nn _ mb hin.1 (by omega) h3
   show _≤(ovG (fun d f m=>d+g f m) R b s k).1+g _ mb
   omega
  ·exact Int.le_refl _
theorem ov_fit {g:Int→Int→Int} {n:Nat} {lo hi day U:Int} {wr:Int→Int} (hw: ∀ x,0≤x→x≤9000000000000000000→wr x=x) (h:Grow g R n lo hi) (hB: ∀ f m,lo≤f→f≤m→m≤hi→g f m≤40000000000000000)
  (hs:0≤s.1∧s.1≤U∧lo≤s.2∧s.2≤hi) (hU:U+((n:Int)+1)*40000000000000000≤9000000000000000000): ∀ j,j≤n→ovG (fun d f m=>wr (d+g f m)) R day s j=ovG (fun d f m=>d+g f m) R day s j∧
   (0≤(ovG (fun d f m=>d+g f m) R day s j).1∧(ovG (fun d f m=>d+g f m) R day s j).1≤U+(j:Int)*40000000000000000∧lo≤(ovG (fun d f m=>d+g f m) R day s j).2∧(ovG (fun d f m=>d+g f m) R day s j).2≤hi):=
 ov_plain (P:=fun j s=>0≤s.1∧s.1≤U+(j:Int)*40000000000000000∧lo≤s.2∧s.2≤hi) (by simpa using hs) (fun j s hj hp h1 h2=>by
  have hb:=h.bd j hj
  have a:=h.nn s.2 (R j) hp.2.2.1 (by omega) hb.2
  have b:=hB s.2 (R j) hp.2.2.1 (by omega) hb.2
  refine⟨hw _ (by omega) (by omega), ?_, ?_,hb.1,hb.2⟩
  ·show 0≤s.1+g s.2 (R j);omega
  ·show s.1+g s.2 (R j)≤U+((j+1:Nat):Int)*40000000000000000;omega) (fun j s hj hp=>⟨hp.1,by show s.1≤U+((j+1:Nat):Int)*40000000000000000;omega,hp.2.2⟩)
theorem se_fit {g:Int→Int→Int} {n:Nat} {lo hi day m U:Int} {wr:Int→Int} (hw: ∀ x,0≤x→x≤9000000000000000000→wr x=x) (h:Grow g R n lo hi) (hB: ∀ f m,lo≤f→f≤m→m≤hi→g f m≤40000000000000000)
  (hs:0≤s.1∧s.1≤U∧lo≤s.2∧s.2≤hi) (hU:U+((n:Int)+1)*40000000000000000≤9000000000000000000) (hm:m≤hi):seG (fun d f m=>wr (d+g f m)) R n day m s=seG (fun d f m=>d+g f m) R n day m s∧
   (0≤(seG (fun d f m=>d+g f m) R n day m s).1∧(seG (fun d f m=>d+g f m) R n day m s).1≤U+((n:Int)+1)*40000000000000000∧lo≤(seG (fun d f m=>d+g f m) R n day m s).2∧(seG (fun d f m=>d+g f m) R n day m s).2≤hi):=by
 obtain⟨e,b1,b2,b3,b4⟩:=ov_fit (day:=day) hw h hB hs hU n (Nat.le_refl _)
 unfold seG
 rw[e]
 generalize ovG (fun d f m=>d+g f m) R day s n=o at b1 b2 b3 b4⊢
 by_cases c:m>o.2
 ·rw[if_pos c,if_pos c]
  have a:=h.nn o.2 m b3 (by omega) hm
  have b:=hB o.2 m b3 (by omega) hm
  refine⟨by show(wr (o.1+g o.2 m),m)=_;rw[hw _ (by omega) (by omega)], ?_, ?_, ?_,hm⟩
  ·show 0≤o.1+g o.2 m;omega
  ·show o.1+g o.2 m≤_;omega
  ·show lo≤m;omega
 ·rw[if_neg c,if_neg c]
  exact⟨rfl,b1,by omega,b3,b4⟩
end Go.Proofs.YtelidogcomffkaaGreatDoor
