/-
Loans that are paid by acts (plain).
-/
import Derived.Test.YtelidogcomffkaaGreatDoorLBe
import Derived.Test.YtelidogcomffkaaGreatDoorProg
import Derived.KernelRfl
set_option linter.unusedSectionVars false
set_option linter.unusedSimpArgs false
set_option linter.unusedVariables false
set_option maxRecDepth 100000
namespace Go.Proofs.YtelidogcomffkaaGreatDoor
open Go Go.Sx
variable [EnvT]
def cnR (R:Nat→Int) (x:Int):Nat→Nat
 |0=>0
 |j+1=>cnR R x j+if R j≤x then 1 else 0
theorem cnR_le {R:Nat→Int} {x:Int}: ∀ n,cnR R x n≤n
 |0=>Nat.le_refl _
 |n+1=>by
  have:=cnR_le (R:=R) (x:=x) n
  unfold cnR;split<;>omega
theorem cnR_mono {R:Nat→Int} {x y:Int} (h:x≤y): ∀ n,cnR R x n≤cnR R y n
 |0=>Nat.le_refl _
 |n+1=>by
  have:=cnR_mono (R:=R) h n
  unfold cnR
  by_cases c:R n≤x
  ·rw[if_pos c,if_pos (by omega)];omega
  ·rw[if_neg c];omega
theorem cnR_lt {R:Nat→Int} {x y:Int} {j:Nat} (h:x<R j) (h2:R j≤y): ∀ n,j<n→cnR R x n+1≤cnR R y n
 |0,hj=>absurd hj (Nat.not_lt_zero _)
 |n+1,hj=>by
  have a:=cnR_mono (R:=R) (show x≤y by omega) n
  unfold cnR
  by_cases e:j=n
  ·subst e
   rw[if_neg (by omega),if_pos h2];omega
  ·have:=cnR_lt h h2 n (by omega)
   by_cases c:R n≤x
   ·rw[if_pos c,if_pos (by omega)];omega
   ·rw[if_neg c];omega
theorem ov_cnt {g:Int→Int→Int} {R:Nat→Int} {s:Int×Int} {n:Nat} {lo hi day:Int} (h:Grow g R n lo hi) (hB: ∀ f m,lo≤f→f≤m→m≤hi→g f m≤40000000000000000) (hs:lo≤s.2∧s.2≤hi):
  (ovG (fun d f m=>d+g f m) R day s n).1+(cnR R s.2 n:Int)*40000000000000000≤s.1+(cnR R (ovG (fun d f m=>d+g f m) R day s n).2 n:Int)*40000000000000000∧lo≤(ovG (fun d f m=>d+g f m) R day s n).2∧(ovG (fun d f m=>d+g f m) R day s n).2≤hi:=
 ov_inv (P:=fun _ x=>x.1+(cnR R s.2 n:Int)*40000000000000000≤s.1+(cnR R x.2 n:Int)*40000000000000000∧lo≤x.2∧x.2≤hi) ⟨Int.le_refl _,hs⟩ (fun j x hj hp h1 h2=>by
  have hb:=h.bd j hj
  have b:=hB x.2 (R j) hp.2.1 (by omega) hb.2
  have c:=cnR_lt (R:=R) (x:=x.2) (y:=R j) (j:=j) h1 (Int.le_refl _) n hj
  refine⟨?_,hb⟩
  show x.1+g x.2 (R j)+_≤s.1+(cnR R (R j) n:Int)*40000000000000000
  omega) (fun _ _ _ q=>q) n (Nat.le_refl _)
theorem se_cnt {g:Int→Int→Int} {R:Nat→Int} {s:Int×Int} {n:Nat} {lo hi day m:Int} (h:Grow g R n lo hi) (hB: ∀ f m,lo≤f→f≤m→m≤hi→g f m≤40000000000000000) (hs:lo≤s.2∧s.2≤hi) (hm:m≤hi):
  (seG (fun d f m=>d+g f m) R n day m s).1+(cnR R s.2 n:Int)*40000000000000000≤s.1+((cnR R (seG (fun d f m=>d+g f m) R n day m s).2 n:Int)+1)*40000000000000000:=by
 obtain⟨a,b1,b2⟩:=ov_cnt (day:=day) h hB hs
 unfold seG
 split
 ·rename_i c
  have b:=hB _ m b1 (by omega) hm
  have d:=cnR_mono (R:=R) (show(ovG (fun d f m=>d+g f m) R day s n).2≤m by omega) n
  show(ovG (fun d f m=>d+g f m) R day s n).1+g _ m+_≤s.1+((cnR R m n:Int)+1)*40000000000000000
  omega
 ·omega
structure Lv (t:Tms) (C:Cl) (k:Nat) (paid:Int) (op du fr ba it:Int):Prop where
 g:Good t C 3000000000000000000 ((oL t C).w op du fr ba it)
 s:op+ba=t.a1
 b:0≤ba
 i:0≤it
 p:it=paid
 k12:k≤12
 c:du+it≤((cnR (fun i=>(tR t C i).1) fr (tN t):Int)+(k:Int))*40000000000000000
theorem lv_0 {t:Tms} {C:Cl} (p:P36 t C):Lv t C 0 0 t.a1 0 (tR t C 0).1 0 0:=by
 have g:=oL_good p
 exact⟨⟨g.tt,g.nr,g.R,g.eo,g.en,g.fq,g.nk,g.V,g.op,⟨Int.le_refl _,show(0:Int)≤3000000000000000000 by decide⟩,g.fr⟩,by omega,Int.le_refl _,Int.le_refl _,rfl,by omega,by omega⟩
theorem py_okS {t:Tms} {C:Cl} {U:Int} {L:Ln} (p:P36 t C) (g:Good t C U L) (hU:U≤3000000000000000000) {n m:Int} (hb:0≤L.ba∧L.ba≤1000000000000000) (hi:0≤L.it∧L.it≤4000000000000000000):PyOk L n m:=by
 intro he
 obtain⟨-,b1,b2, -, -⟩:=se_good (day:=n) p g (by omega)
 have hmon:=chk_mon (sch0 p.h).1
 have ho:=g.op
 have hm:0≤m∧m≤9000000000000000000:=by
  apply Classical.byContradiction
  intro c
  unfold pyE at he
  split at he
  ·cases he
  ·split at he
   ·cases he
   ·rw[if_pos (by omega)]at he;cases he
 have a1:=mnI_le (x:=m) (y:=(seS L n).1)
 have a2:=mnI_le (x:=m-mnI m (seS L n).1) (y:=L.op)
 exact⟨irT (by omega),irT (by omega),irT (by omega),irT (by omega),irT (by omega),irT (by omega)⟩
theorem py_yes {L:Ln} {n m:Int} (he:pyE L n m=0):isDay n=true∧0≤m∧m≤9000000000000000000:=by
 unfold pyE at he
 split at he
 ·cases he
 ·rename_i c
  split at he
  ·cases he
  ·split at he
   ·cases he
   ·exact⟨by cases h:isDay n;exact absurd h c;rfl,by omega,by omega⟩
theorem lv_pay {t:Tms} {C:Cl} {k:Nat} {paid op du fr ba it n m:Int} (p:P36 t C) (v:Lv t C k paid op du fr ba it) (hk:k+1≤12) (he:pyE ((oL t C).w op du fr ba it) n m=0):
  Lv t C (k+1) (paid+pyA ((oL t C).w op du fr ba it) n m) (pyL ((oL t C).w op du fr ba it) n m).op (pyL ((oL t C).w op du fr ba it) n m).du (pyL ((oL t C).w op du fr ba it) n m).fr (pyL ((oL t C).w op du fr ba it) n m).ba (pyL ((oL t C).w op du fr ba it) n m).it:=by
 obtain⟨g,hs,hb,hi,hp, -,hc⟩:=v
 subst hp
 have hmon:=chk_mon (sch0 p.h).1
 have hn:=tN_36 p
 generalize hL:(oL t C).w op du fr ba it=L at*
 have e1:L.op=op:=by rw[←hL]
 have e2:L.du=du:=by rw[←hL]
 have e3:L.fr=fr:=by rw[←hL]
 have e4:L.ba=ba:=by rw[←hL]
 have e5:L.it=it:=by rw[←hL]
 obtain⟨y1,y2⟩:=py_yes he
 obtain⟨q1,q2,q3,q4,q5,q6,q7,q8⟩:=py_val he
 obtain⟨se,b1,b2,b3,b4⟩:=se_good (day:=n) p g (by decide)
 have cn:=se_cnt (day:=n) (m:=mnI n (tE t C)) (s:=(L.du,L.fr)) (good_grow p g) (fun f m h1 h2 h3=>(in_val p g h1 h2 h3).choose_spec.2.2.2) g.fr mnI_le.2.1
 rw[←se]at cn
 have cn2:(seS L n).1+(cnR (fun i=>(tR t C i).1) fr (tN t):Int)*40000000000000000≤du+((cnR (fun i=>(tR t C i).1) (seS L n).2 (tN t):Int)+1)*40000000000000000:=by
  rw[g.R,g.nr]at cn
  rw[←e2,←e3];exact cn
 have cl:=cnR_le (R:=fun i=>(tR t C i).1) (x:=(seS L n).2) (tN t)
 have ho:=g.op
 have hd:=g.du
 have a1:=mnI_le (x:=m) (y:=(seS L n).1)
 have a2:=mnI_le (x:=m-mnI m (seS L n).1) (y:=L.op)
 rw[e1]at ho a2 q2 q4 q7
 rw[e4]at q7
 rw[e5]at q8
 rw[q1,q4,q5,q6,q7,q8]
 have g0:=oL_good p
 refine⟨⟨g0.tt,g0.nr,g0.R,g0.eo,g0.en,g0.fq,g0.nk,g0.V, ?_, ?_,⟨b3,b4⟩⟩,by omega,by omega,by omega,rfl,hk, ?_⟩
 ·show 0≤op-_∧op-_≤t.a1;omega
 ·show 0≤(seS L n).1-_∧(seS L n).1-_≤_;omega
 ·omega
abbrev acH (C:Cl) (na:Nat) (pb:Nat→Bool) (dy mo:Nat→Int):List (Option Vw):=[some (.row false 109 C.nr 8 (fun i=>[I ((C.R i).kind),I ((C.R i).mon),I ((C.R i).day),I ((C.R i).k),I ((C.R i).off),I ((C.R i).sh),I ((C.R i).fr),I ((C.R i).to)])),some (.row false 3 C.nd 1 (fun i=>[I (C.D i)])),some (.row false 48 na 3 (fun i=>[B (pb i),I (dy i),I (mo i)]))]
abbrev sD (x:Int) (dy:Nat→Int) (i:Int):Int:=IntKind.wrap .i64 (x+dy i.toNat)
noncomputable abbrev sL (t:Tms) (C:Cl) (op du fr ba it:Int):Ln:=Ln.w (oL t C) op du fr ba it
end Go.Proofs.YtelidogcomffkaaGreatDoor
