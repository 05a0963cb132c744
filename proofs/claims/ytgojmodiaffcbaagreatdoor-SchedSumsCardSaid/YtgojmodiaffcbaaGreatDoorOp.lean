/-
Plans by a calendar that is open (SchedOpen).
-/
import Derived.Test.YtgojmodiaffcbaaGreatDoorSm
set_option linter.unusedSectionVars false
set_option linter.unusedSimpArgs false
set_option linter.unusedVariables false
set_option maxRecDepth 100000
namespace Go.Proofs.YtgojmodiaffcbaaGreatDoor
open Go Go.Sx
variable [EnvT]
theorem biz0 {n:Int} (h:isDay n=true):bizB cal0 n=true:=by unfold bizB;rw[h];rfl
theorem frV0 {n b:Int} (h:isDay n=true):frV cal0 n b=(n,0):=by
 unfold frV frS
 rw[show n+((0:Nat):Int)*b=n by simp,if_neg (by rw[h];decide),if_pos (biz0 h)]
theorem toV0 {n k:Int} (h:isDay n=true) (hk:0≤k∧k≤4):toV cal0 n k=(n,0):=by
 unfold toV
 rw[if_neg (by omega)]
 by_cases c:k=0
 ·rw[if_pos c,if_neg (by rw[h];decide)]
 ·rw[if_neg c,frV0 h,frV0 h];(repeat' split)<;>rfl
theorem toVn {C:Cl} {n:Int} (h:isDay n=true):toV C n 0=(n,0):=by unfold toV;rw[if_neg (by decide),if_pos rfl,if_neg (by rw[h];decide)]
theorem psum_congr {a b:Int} {f:Nat} {g g':Nat→Int}: ∀ {n:Nat},(∀ i,i≤n→g i=g' i)→psum a b f g n=psum a b f g' n
 |0,_=>rfl
 |n+1,h=>by
  show psum a b f g n+term a b f g n=psum a b f g' n+term a b f g' n
  rw[psum_congr (fun i hi=>h i (by omega))]
  unfold term
  rw[h n (by omega),h (n+1) (by omega)]
theorem mayB_congr {n:Nat} {g g':Nat→Int} {f:Int} (hn:1≤n) (h: ∀ i,i<n→g i=g' i):mayB n g f=mayB n g' f:=by
 unfold mayB
 rw[decide_eq_decide,h 0 (by omega),h (n-1) (by omega)]
 constructor
 ·rintro ⟨h1,h2,h3,h4,h5,h6,h7⟩
  exact⟨h1,h2,h3,h4,fun i hi=>by rw[←h i hi];exact h5 i hi,fun i hi=>by rw[←h i (by omega),←h (i+1) (by omega)];exact h6 i hi,h7⟩
 ·rintro ⟨h1,h2,h3,h4,h5,h6,h7⟩
  exact⟨h1,h2,h3,h4,fun i hi=>by rw[h i hi];exact h5 i hi,fun i hi=>by rw[h i (by omega),h (i+1) (by omega)];exact h6 i hi,h7⟩
theorem partR_congr {a b:Int} {n:Nat} {g g':Nat→Int} {f:Int} (hn:1≤n) (h: ∀ i,i<n→g i=g' i):partR a b n g f=partR a b n g' f:=by
 unfold partR
 rw[mayB_congr hn h,h 0 (by omega),h (n-1) (by omega),psum_congr (n:=n-1) (fun i hi=>h i (by omega))]
theorem mkI_e {x d:Int} (hx:x≤4611686018427387904) (hd:d≤4611686018427387904):(mkI x d).2.2=0:=by
 unfold mkI mkR
 have h1:x.toNat/Nat.gcd x.toNat d.toNat≤x.toNat:=Nat.div_le_self _ _
 have h2:d.toNat/Nat.gcd x.toNat d.toNat≤d.toNat:=Nat.div_le_self _ _
 rw[if_neg (by omega)]
theorem p7_e {a b d1 d2:Int} (h:whyR a b=0) (h1:0≤d1∧d1≤31) (h2:0≤d2∧d2≤31):(p7 (n7 (cY a) (cM a) (cY b) (cM b) d1 d2)).2.2=0:=by
 obtain⟨q1,q2,q3,q4,q5,q6⟩:=sm_ok h h1 h2
 unfold p7 n7
 exact mkI_e (by split<;>omega) (by decide)
theorem partC_e {k a b:Int} {eom:Bool} {e f:Int} {n:Nat} {g:Nat→Int} (hk:0≤k∧k≤6) (h:whyR a b=0):(partC k a b eom e f n g).2.2=0∨(k=6∧(partC k a b eom e f n g).2.2=5):=by
 have hw:=why_0.1 h
 have ca:=civ_ok hw.1
 have cb:=civ_ok hw.2.1
 have da:=isDay_iff.1 hw.1
 have db:=isDay_iff.1 hw.2.1
 unfold partC
 split
 ·left;unfold r7US r7;rw[if_pos h]
  refine p7_e h ?_ ?_
  ·unfold usD;simp only;(repeat' split)<;>omega
  ·unfold usD;simp only;(repeat' split)<;>omega
 ·split
  ·left;unfold r7E r7;rw[if_pos h]
   refine p7_e h ?_ ?_
   ·simp only;split<;>omega
   ·simp only;split<;>omega
  ·split
   ·left;unfold r7Isda r7;rw[if_pos h]
    refine p7_e h ?_ ?_
    ·simp only;split<;>omega
    ·simp only;split<;>omega
   ·split
    ·left;unfold r8;rw[if_pos h];exact mkI_e (by omega) (by decide)
    ·split
     ·left;unfold r8;rw[if_pos h];exact mkI_e (by omega) (by decide)
     ·split
      ·left;unfold r8Y;rw[if_pos h]
      ·split
       ·rename_i h6
        unfold partR
        rw[if_neg (by rw[hw.1,hw.2.1];decide),if_neg hw.2.2]
        split
        ·exact .inr ⟨h6,rfl⟩
        ·exact .inl rfl
       ·omega
theorem partC_congr {k a b:Int} {eom:Bool} {e f:Int} {n:Nat} {g g':Nat→Int} (h:k=6→1≤n∧ ∀ i,i<n→g i=g' i):partC k a b eom e f n g=partC k a b eom e f n g':=by
 unfold partC
 by_cases h6:k=6
 ·rw[partR_congr (h h6).1 (h h6).2]
 ·rw[if_neg h6,if_neg h6]
theorem fstE_congr {f g:Nat→Int}: ∀ {n:Nat},(∀ i,i<n→f i=g i)→fstE f n=fstE g n:=by
 intro n h
 by_cases c: ∀ i,i<n→f i=0
 ·rw[fstE_no c,fstE_no (fun i hi=>by rw[←h i hi];exact c i hi)]
 ·have: ∃ i,i<n∧f i≠0:=by
   apply Classical.byContradiction
   intro q
   exact c (fun i hi=>Classical.byContradiction fun z=>q ⟨i,hi,z⟩)
  obtain⟨i,hi,hz,hj⟩: ∃ i,i<n∧f i≠0∧ ∀ j,j<i→f j=0:=by
   have key: ∀ m,(∃ i,i<m∧f i≠0)→ ∃ i,i<m∧f i≠0∧ ∀ j,j<i→f j=0:=by
    intro m
    induction m with
    |zero=>rintro ⟨i,hi, -⟩;omega
    |succ m ih=>
     rintro ⟨i,hi,hz⟩
     by_cases e: ∃ i,i<m∧f i≠0
     ·obtain⟨i,q1,q2,q3⟩:=ih e
      exact⟨i,by omega,q2,q3⟩
     ·have:i=m:=Classical.byContradiction fun z=>e ⟨i,by omega,hz⟩
      exact⟨i,hi,hz,fun j hj=>Classical.byContradiction fun z=>e ⟨j,by omega,z⟩⟩
   exact key n this
  rw[fstE_at hj hz hi,fstE_at (f:=g) (fun j q=>by rw[←h j (by omega)];exact hj j q) (by rw[←h i hi];exact hz) hi,h i hi]
theorem fstE_some {f:Nat→Int} {P:Int→Prop} (h0:P 0): ∀ {n:Nat},(∀ i,i<n→P (f i))→P (fstE f n)
 |0,_=>h0
 |n+1,h=>by
  unfold fstE
  split
  ·exact fstE_some h0 (fun i hi=>h i (by omega))
  ·exact h n (by omega)
def oP (t:Tms) (i:Nat):Int×Int×Int:=partC t.a4 (tD t i) (tD t (i+1)) t.a10 (tD t (tN t-1)) (frq t.a7) (tK t) (tV t)
theorem opn {t:Tms} {C:Cl} (h0:tCk t=0) (hs:tSh t) (hr: ∀ i,i<tN t→tR t C i=(tD t i,0)) (hq: ∀ i,i<tG t→tQ t C i=(tV t i,0)):
  schE t C=fstE (fun i=>(oP t i).2.2) (tN t-1)∧(∀ i,i<tN t-1→tP t C i=oP t i)∧tE t C=tD t (tN t-1):=by
 have hN:=tN_le h0 hs
 have hG:=tG_le h0 hs
 have hE:tE t C=tD t (tN t-1):=by unfold tE;rw[hr _ (by omega)]
 have hP: ∀ i,i<tN t-1→tP t C i=oP t i:=fun i hi=>by
  unfold tP oP
  rw[hr i (by omega),hr (i+1) (by omega),hE]
  refine partC_congr fun h6=> ?_
  have hk:tK t=tG t:=if_pos h6
  rw[hk]
  exact⟨hG.1,fun j hj=>by rw[hq j hj]⟩
 refine⟨?_,hP,hE⟩
 unfold schE
 rw[if_neg (by rw[h0];decide),if_neg (by rw[fstE_no (fun i hi=>by rw[hr i hi])];decide),if_neg (by rw[fstE_no (fun i hi=>by rw[hq i hi])];rintro ⟨-,c⟩;exact c rfl)]
 exact fstE_congr fun i hi=>by rw[hP i hi]
theorem chk_roll {a1 a2 a3 a4 a5 a6 a7 r r':Int} (h:chk a1 a2 a3 a4 a5 a6 a7 r=0) (h':0≤r'∧r'≤4):chk a1 a2 a3 a4 a5 a6 a7 r'=0:=by
 unfold chk at h⊢
 split at h
 ·exact absurd h (by decide)
 ·rename_i c
  rw[if_neg (by omega)]
  exact h
theorem chk_cnt {a1 a2 a3 a4 a5 a6 a7 r:Int} (h:chk a1 a2 a3 a4 a5 a6 a7 r=0):0≤a4∧a4≤6:=by
 unfold chk at h
 split at h
 ·exact absurd h (by decide)
 ·omega
theorem tD_why {t:Tms} (h0:tCk t=0) (hs:tSh t) {i:Nat} (hi:i<tN t-1):whyR (tD t i) (tD t (i+1))=0:=by
 rw[why_0]
 refine⟨tD_day h0 hs (by omega),tD_day h0 hs (by omega), ?_⟩
 have h:= @dV_rise _ t.a5 t.a6 t.a7 t.a9 t.a8 t.a10 (tCk_loan h0) (hs h0) i (by rw[tN_eq h0]at hi;omega)
 show¬dV t.a5 t.a6 t.a7 t.a9 t.a8 t.a10 i>dV t.a5 t.a6 t.a7 t.a9 t.a8 t.a10 (i+1)
 omega
theorem opn_code {t:Tms} (h0:tCk t=0) (hs:tSh t):fstE (fun i=>(oP t i).2.2) (tN t-1)=0∨(t.a4=6∧fstE (fun i=>(oP t i).2.2) (tN t-1)=5):=
 fstE_some (P:=fun x=>x=0∨(t.a4=6∧x=5)) (.inl rfl) (fun i hi=>partC_e (chk_cnt h0) (tD_why h0 hs hi))
theorem open_plain {t:Tms} {C:Cl} {wa:Int} (hw:0≤wa∧wa≤255) (h0:tCk t=0) (hs:tSh t) (hC:CalOk C) (l1: ∀ u C,tSh u→plN u C≤252) (l2: ∀ u C,tSh u→plK u C≤250):
  tSh (Tms.mk t.a1 t.a2 t.a3 t.a4 t.a5 t.a6 t.a7 t.a8 t.a9 t.a10 0)∧CalOk C∧Ir wa∧tSh (Tms.mk t.a1 t.a2 t.a3 t.a4 t.a5 t.a6 t.a7 t.a8 t.a9 t.a10 (Int.tmod wa 5))∧(schE (Tms.mk t.a1 t.a2 t.a3 t.a4 t.a5 t.a6 t.a7 t.a8 t.a9 t.a10 0) C)=(schE (Tms.mk t.a1 t.a2 t.a3 t.a4 t.a5 t.a6 t.a7 t.a8 t.a9 t.a10 (Int.tmod wa 5)) cal0)∧((plN (Tms.mk t.a1 t.a2 t.a3 t.a4 t.a5 t.a6 t.a7 t.a8 t.a9 t.a10 0) C)=(plN (Tms.mk t.a1 t.a2 t.a3 t.a4 t.a5 t.a6 t.a7 t.a8 t.a9 t.a10 (Int.tmod wa 5)) cal0)∧ ∀ i,i<(plN (Tms.mk t.a1 t.a2 t.a3 t.a4 t.a5 t.a6 t.a7 t.a8 t.a9 t.a10 0) C)→(fun i=>tD (Tms.mk t.a1 t.a2 t.a3 t.a4 t.a5 t.a6 t.a7 t.a8 t.a9 t.a10 0) i) i=(fun i=>tD (Tms.mk t.a1 t.a2 t.a3 t.a4 t.a5 t.a6 t.a7 t.a8 t.a9 t.a10 (Int.tmod wa 5)) i) i)∧((plN (Tms.mk t.a1 t.a2 t.a3 t.a4 t.a5 t.a6 t.a7 t.a8 t.a9 t.a10 0) C)=(plN (Tms.mk t.a1 t.a2 t.a3 t.a4 t.a5 t.a6 t.a7 t.a8 t.a9 t.a10 (Int.tmod wa 5)) cal0)∧ ∀ i,i<(plN (Tms.mk t.a1 t.a2 t.a3 t.a4 t.a5 t.a6 t.a7 t.a8 t.a9 t.a10 0) C)→(fun i=>(tR (Tms.mk t.a1 t.a2 t.a3 t.a4 t.a5 t.a6 t.a7 t.a8 t.a9 t.a10 0) C i).1) i=(fun i=>(tR (Tms.mk t.a1 t.a2 t.a3 t.a4 t.a5 t.a6 t.a7 t.a8 t.a9 t.a10 (Int.tmod wa 5)) cal0 i).1) i)∧((plK (Tms.mk t.a1 t.a2 t.a3 t.a4 t.a5 t.a6 t.a7 t.a8 t.a9 t.a10 0) C)=(plK (Tms.mk t.a1 t.a2 t.a3 t.a4 t.a5 t.a6 t.a7 t.a8 t.a9 t.a10 (Int.tmod wa 5)) cal0)∧ ∀ i,i<(plK (Tms.mk t.a1 t.a2 t.a3 t.a4 t.a5 t.a6 t.a7 t.a8 t.a9 t.a10 0) C)→(fun i=>(tQ (Tms.mk t.a1 t.a2 t.a3 t.a4 t.a5 t.a6 t.a7 t.a8 t.a9 t.a10 0) C i).1) i=(fun i=>(tQ (Tms.mk t.a1 t.a2 t.a3 t.a4 t.a5 t.a6 t.a7 t.a8 t.a9 t.a10 (Int.tmod wa 5)) cal0 i).1) i)∧((plN (Tms.mk t.a1 t.a2 t.a3 t.a4 t.a5 t.a6 t.a7 t.a8 t.a9 t.a10 0) C-1)=(plN (Tms.mk t.a1 t.a2 t.a3 t.a4 t.a5 t.a6 t.a7 t.a8 t.a9 t.a10 (Int.tmod wa 5)) cal0-1)∧ ∀ i,i<(plN (Tms.mk t.a1 t.a2 t.a3 t.a4 t.a5 t.a6 t.a7 t.a8 t.a9 t.a10 0) C-1)→(fun i=>(tP (Tms.mk t.a1 t.a2 t.a3 t.a4 t.a5 t.a6 t.a7 t.a8 t.a9 t.a10 0) C i).1) i=(fun i=>(tP (Tms.mk t.a1 t.a2 t.a3 t.a4 t.a5 t.a6 t.a7 t.a8 t.a9 t.a10 (Int.tmod wa 5)) cal0 i).1) i∧(fun i=>(tP (Tms.mk t.a1 t.a2 t.a3 t.a4 t.a5 t.a6 t.a7 t.a8 t.a9 t.a10 0) C i).2.1) i=(fun i=>(tP (Tms.mk t.a1 t.a2 t.a3 t.a4 t.a5 t.a6 t.a7 t.a8 t.a9 t.a10 (Int.tmod wa 5)) cal0 i).2.1) i)∧(plB (Tms.mk t.a1 t.a2 t.a3 t.a4 t.a5 t.a6 t.a7 t.a8 t.a9 t.a10 0) C)=(plB (Tms.mk t.a1 t.a2 t.a3 t.a4 t.a5 t.a6 t.a7 t.a8 t.a9 t.a10 (Int.tmod wa 5)) cal0)∧(plE (Tms.mk t.a1 t.a2 t.a3 t.a4 t.a5 t.a6 t.a7 t.a8 t.a9 t.a10 0) C)=(plE (Tms.mk t.a1 t.a2 t.a3 t.a4 t.a5 t.a6 t.a7 t.a8 t.a9 t.a10 (Int.tmod wa 5)) cal0)∧(plF (Tms.mk t.a1 t.a2 t.a3 t.a4 t.a5 t.a6 t.a7 t.a8 t.a9 t.a10 0) C)=(plF (Tms.mk t.a1 t.a2 t.a3 t.a4 t.a5 t.a6 t.a7 t.a8 t.a9 t.a10 (Int.tmod wa 5)) cal0)∧(plN (Tms.mk t.a1 t.a2 t.a3 t.a4 t.a5 t.a6 t.a7 t.a8 t.a9 t.a10 0) C)≤10000∧(plK (Tms.mk t.a1 t.a2 t.a3 t.a4 t.a5 t.a6 t.a7 t.a8 t.a9 t.a10 0) C)≤10000∧(plN (Tms.mk t.a1 t.a2 t.a3 t.a4 t.a5 t.a6 t.a7 t.a8 t.a9 t.a10 0) C-1)≤10000∧((schE (Tms.mk t.a1 t.a2 t.a3 t.a4 t.a5 t.a6 t.a7 t.a8 t.a9 t.a10 0) C)≠0→(schE (Tms.mk t.a1 t.a2 t.a3 t.a4 t.a5 t.a6 t.a7 t.a8 t.a9 t.a10 0) C)=5∧(t.a4==6)=true)∧((schE (Tms.mk t.a1 t.a2 t.a3 t.a4 t.a5 t.a6 t.a7 t.a8 t.a9 t.a10 0) C)=0→((plN (Tms.mk t.a1 t.a2 t.a3 t.a4 t.a5 t.a6 t.a7 t.a8 t.a9 t.a10 0) C)=(plN (Tms.mk t.a1 t.a2 t.a3 t.a4 t.a5 t.a6 t.a7 t.a8 t.a9 t.a10 0) C)∧ ∀ i,i<(plN (Tms.mk t.a1 t.a2 t.a3 t.a4 t.a5 t.a6 t.a7 t.a8 t.a9 t.a10 0) C)→(fun i=>tD (Tms.mk t.a1 t.a2 t.a3 t.a4 t.a5 t.a6 t.a7 t.a8 t.a9 t.a10 0) i) i=(fun i=>(tR (Tms.mk t.a1 t.a2 t.a3 t.a4 t.a5 t.a6 t.a7 t.a8 t.a9 t.a10 0) C i).1) i)∧(plN (Tms.mk t.a1 t.a2 t.a3 t.a4 t.a5 t.a6 t.a7 t.a8 t.a9 t.a10 0) C)≤100000):=by
 have hm:0≤Int.tmod wa 5∧Int.tmod wa 5≤4:=by rw[Int.tmod_eq_emod_of_nonneg hw.1];omega
 have k0:tCk (Tms.mk t.a1 t.a2 t.a3 t.a4 t.a5 t.a6 t.a7 t.a8 t.a9 t.a10 0)=0:=chk_roll (r':=0) h0 (by decide)
 have kv:tCk (Tms.mk t.a1 t.a2 t.a3 t.a4 t.a5 t.a6 t.a7 t.a8 t.a9 t.a10 (Int.tmod wa 5))=0:=chk_roll h0 hm
 have s0:tSh (Tms.mk t.a1 t.a2 t.a3 t.a4 t.a5 t.a6 t.a7 t.a8 t.a9 t.a10 0):=fun _=>hs h0
 have sv:tSh (Tms.mk t.a1 t.a2 t.a3 t.a4 t.a5 t.a6 t.a7 t.a8 t.a9 t.a10 (Int.tmod wa 5)):=fun _=>hs h0
 obtain⟨e1,e2,e3⟩:=opn (C:=C) k0 s0 (fun i hi=>toVn (tD_day k0 s0 hi)) (fun i hi=>toVn (tV_day k0 s0 hi))
 obtain⟨f1,f2,f3⟩:=opn (C:=cal0) kv sv (fun i hi=>toV0 (tD_day kv sv hi) hm) (fun i hi=>toV0 (tV_day kv sv hi) hm)
 generalize hu:Tms.mk t.a1 t.a2 t.a3 t.a4 t.a5 t.a6 t.a7 t.a8 t.a9 t.a10 0=u at k0 s0 e1 e2 e3⊢
 generalize hv:Tms.mk t.a1 t.a2 t.a3 t.a4 t.a5 t.a6 t.a7 t.a8 t.a9 t.a10 (Int.tmod wa 5)=v at kv sv f1 f2 f3⊢
 have g4:v.a4=u.a4:=by rw[←hu,←hv]
 have g5:v.a5=u.a5:=by rw[←hu,←hv]
 have g6:v.a6=u.a6:=by rw[←hu,←hv]
 have g7:v.a7=u.a7:=by rw[←hu,←hv]
 have g8:v.a8=u.a8:=by rw[←hu,←hv]
 have g9:v.a9=u.a9:=by rw[←hu,←hv]
 have g10:v.a10=u.a10:=by rw[←hu,←hv]
 have g4t:u.a4=t.a4:=by rw[←hu]
 have u11:u.a11=0:=by rw[←hu]
 have v11:0≤v.a11∧v.a11≤4:=by rw[←hv];exact hm
 have hN:tN v=tN u:=by rw[tN_eq k0,tN_eq kv,g5,g6,g7,g8,g9,g10]
 have hG:tG v=tG u:=by rw[tG_eq k0,tG_eq kv,g5,g6,g7,g8,g10]
 have hK:tK v=tK u:=by unfold tK;rw[hG,g4]
 have hD:tD v=tD u:=by funext i;unfold tD;rw[g5,g6,g7,g8,g9,g10]
 have hV:tV v=tV u:=by funext i;unfold tV;rw[g5,g6,g7,g8,g10]
 have hO:oP v=oP u:=by funext i;unfold oP;rw[hD,hN,hK,hV,g4,g7,g10]
 have hE:schE u C=schE v cal0:=by rw[e1,f1,hO,hN]
 have n1:plN u C=plN v cal0:=by unfold plN;rw[hE,hN]
 have n2:plK u C=plK v cal0:=by unfold plK;rw[hE,hK]
 have b1:=l1 u C s0
 have b2:=l2 u C s0
 have R1: ∀ i,i<plN u C→(tR u C i).1=tD u i:=fun i hi=>by
  have:i<tN u:=by unfold plN at hi;split at hi<;>omega
  unfold tR;rw[u11,toVn (tD_day k0 s0 this)]
 have R2: ∀ i,i<plN u C→(tR v cal0 i).1=tD u i:=fun i hi=>by
  have:i<tN v:=by rw[hN];unfold plN at hi;split at hi<;>omega
  unfold tR;rw[toV0 (tD_day kv sv this) v11,hD]
 have Q1: ∀ i,i<plK u C→(tQ u C i).1=tV u i∧(tQ v cal0 i).1=tV u i:=fun i hi=>by
  have:i<tG u:=by
   unfold plK at hi
   split at hi
   ·unfold tK at hi;split at hi<;>omega
   ·omega
  refine⟨?_, ?_⟩
  ·unfold tQ;rw[u11,toVn (tV_day k0 s0 this)]
  ·unfold tQ;rw[toV0 (tV_day kv sv (by rw[hG];exact this)) v11,hV]
 have P1: ∀ i,i<plN u C-1→tP u C i=tP v cal0 i:=fun i hi=>by
  have:i<tN u-1:=by unfold plN at hi;split at hi<;>omega
  rw[e2 i this,f2 i (by rw[hN];exact this),hO]
 refine⟨s0,hC,irT (by omega),sv,hE,⟨n1,fun i _=>by rw[hD]⟩,⟨n1,fun i hi=> ?_⟩,⟨n2,fun i hi=> ?_⟩,⟨by rw[n1],fun i hi=>⟨?_, ?_⟩⟩,by unfold plB;rw[hE,g10],by unfold plE;rw[hE,e3,f3,hD,hN],by unfold plF;rw[hE,g7],by omega,by omega,by omega,fun c=> ?_,fun c=>⟨⟨rfl,fun i hi=>(R1 i hi).symm⟩,by omega⟩⟩
 ·show(tR u C i).1=(tR v cal0 i).1;rw[R1 i hi,R2 i hi]
 ·show(tQ u C i).1=(tQ v cal0 i).1;rw[(Q1 i hi).1,(Q1 i hi).2]
 ·show(tP u C i).1=(tP v cal0 i).1;rw[P1 i hi]
 ·show(tP u C i).2.1=(tP v cal0 i).2.1;rw[P1 i hi]
 ·have hc:=opn_code k0 s0
  rw[←e1]at hc
  rcases hc with hc|hc
  ·exact absurd hc c
  ·exact⟨hc.2,by rw[←g4t];exact beq_iff_eq.2 hc.1⟩
theorem lOpen_w {t:Tms} {C:Cl} {wa:Int} (H:((chk t.a1 t.a2 t.a3 t.a4 t.a5 t.a6 t.a7 t.a11)=0→((shP t C 60)=true→tSh (Tms.mk t.a1 t.a2 t.a3 t.a4 t.a5 t.a6 t.a7 t.a8 t.a9 t.a10 0)∧CalOk C∧Ir wa∧tSh (Tms.mk t.a1 t.a2 t.a3 t.a4 t.a5 t.a6 t.a7 t.a8 t.a9 t.a10 (Int.tmod wa 5))∧(schE (Tms.mk t.a1 t.a2 t.a3 t.a4 t.a5 t.a6 t.a7 t.a8 t.a9 t.a10 0) C)=(schE (Tms.mk t.a1 t.a2 t.a3 t.a4 t.a5 t.a6 t.a7 t.a8 t.a9 t.a10 (Int.tmod wa 5)) cal0)∧((plN (Tms.mk t.a1 t.a2 t.a3 t.a4 t.a5 t.a6 t.a7 t.a8 t.a9 t.a10 0) C)=(plN (Tms.mk t.a1 t.a2 t.a3 t.a4 t.a5 t.a6 t.a7 t.a8 t.a9 t.a10 (Int.tmod wa 5)) cal0)∧ ∀ i,i<(plN (Tms.mk t.a1 t.a2 t.a3 t.a4 t.a5 t.a6 t.a7 t.a8 t.a9 t.a10 0) C)→(fun i=>tD (Tms.mk t.a1 t.a2 t.a3 t.a4 t.a5 t.a6 t.a7 t.a8 t.a9 t.a10 0) i) i=(fun i=>tD (Tms.mk t.a1 t.a2 t.a3 t.a4 t.a5 t.a6 t.a7 t.a8 t.a9 t.a10 (Int.tmod wa 5)) i) i)∧((plN (Tms.mk t.a1 t.a2 t.a3 t.a4 t.a5 t.a6 t.a7 t.a8 t.a9 t.a10 0) C)=(plN (Tms.mk t.a1 t.a2 t.a3 t.a4 t.a5 t.a6 t.a7 t.a8 t.a9 t.a10 (Int.tmod wa 5)) cal0)∧ ∀ i,i<(plN (Tms.mk t.a1 t.a2 t.a3 t.a4 t.a5 t.a6 t.a7 t.a8 t.a9 t.a10 0) C)→(fun i=>(tR (Tms.mk t.a1 t.a2 t.a3 t.a4 t.a5 t.a6 t.a7 t.a8 t.a9 t.a10 0) C i).1) i=(fun i=>(tR (Tms.mk t.a1 t.a2 t.a3 t.a4 t.a5 t.a6 t.a7 t.a8 t.a9 t.a10 (Int.tmod wa 5)) cal0 i).1) i)∧((plK (Tms.mk t.a1 t.a2 t.a3 t.a4 t.a5 t.a6 t.a7 t.a8 t.a9 t.a10 0) C)=(plK (Tms.mk t.a1 t.a2 t.a3 t.a4 t.a5 t.a6 t.a7 t.a8 t.a9 t.a10 (Int.tmod wa 5)) cal0)∧ ∀ i,i<(plK (Tms.mk t.a1 t.a2 t.a3 t.a4 t.a5 t.a6 t.a7 t.a8 t.a9 t.a10 0) C)→(fun i=>(tQ (Tms.mk t.a1 t.a2 t.a3 t.a4 t.a5 t.a6 t.a7 t.a8 t.a9 t.a10 0) C i).1) i=(fun i=>(tQ (Tms.mk t.a1 t.a2 t.a3 t.a4 t.a5 t.a6 t.a7 t.a8 t.a9 t.a10 (Int.tmod wa 5)) cal0 i).1) i)∧((plN (Tms.mk t.a1 t.a2 t.a3 t.a4 t.a5 t.a6 t.a7 t.a8 t.a9 t.a10 0) C-1)=(plN (Tms.mk t.a1 t.a2 t.a3 t.a4 t.a5 t.a6 t.a7 t.a8 t.a9 t.a10 (Int.tmod wa 5)) cal0-1)∧ ∀ i,i<(plN (Tms.mk t.a1 t.a2 t.a3 t.a4 t.a5 t.a6 t.a7 t.a8 t.a9 t.a10 0) C-1)→(fun i=>(tP (Tms.mk t.a1 t.a2 t.a3 t.a4 t.a5 t.a6 t.a7 t.a8 t.a9 t.a10 0) C i).1) i=(fun i=>(tP (Tms.mk t.a1 t.a2 t.a3 t.a4 t.a5 t.a6 t.a7 t.a8 t.a9 t.a10 (Int.tmod wa 5)) cal0 i).1) i∧(fun i=>(tP (Tms.mk t.a1 t.a2 t.a3 t.a4 t.a5 t.a6 t.a7 t.a8 t.a9 t.a10 0) C i).2.1) i=(fun i=>(tP (Tms.mk t.a1 t.a2 t.a3 t.a4 t.a5 t.a6 t.a7 t.a8 t.a9 t.a10 (Int.tmod wa 5)) cal0 i).2.1) i)∧(plB (Tms.mk t.a1 t.a2 t.a3 t.a4 t.a5 t.a6 t.a7 t.a8 t.a9 t.a10 0) C)=(plB (Tms.mk t.a1 t.a2 t.a3 t.a4 t.a5 t.a6 t.a7 t.a8 t.a9 t.a10 (Int.tmod wa 5)) cal0)∧(plE (Tms.mk t.a1 t.a2 t.a3 t.a4 t.a5 t.a6 t.a7 t.a8 t.a9 t.a10 0) C)=(plE (Tms.mk t.a1 t.a2 t.a3 t.a4 t.a5 t.a6 t.a7 t.a8 t.a9 t.a10 (Int.tmod wa 5)) cal0)∧(plF (Tms.mk t.a1 t.a2 t.a3 t.a4 t.a5 t.a6 t.a7 t.a8 t.a9 t.a10 0) C)=(plF (Tms.mk t.a1 t.a2 t.a3 t.a4 t.a5 t.a6 t.a7 t.a8 t.a9 t.a10 (Int.tmod wa 5)) cal0)∧(plN (Tms.mk t.a1 t.a2 t.a3 t.a4 t.a5 t.a6 t.a7 t.a8 t.a9 t.a10 0) C)≤10000∧(plK (Tms.mk t.a1 t.a2 t.a3 t.a4 t.a5 t.a6 t.a7 t.a8 t.a9 t.a10 0) C)≤10000∧(plN (Tms.mk t.a1 t.a2 t.a3 t.a4 t.a5 t.a6 t.a7 t.a8 t.a9 t.a10 0) C-1)≤10000∧((schE (Tms.mk t.a1 t.a2 t.a3 t.a4 t.a5 t.a6 t.a7 t.a8 t.a9 t.a10 0) C)≠0→(schE (Tms.mk t.a1 t.a2 t.a3 t.a4 t.a5 t.a6 t.a7 t.a8 t.a9 t.a10 0) C)=5∧(t.a4==6)=true)∧((schE (Tms.mk t.a1 t.a2 t.a3 t.a4 t.a5 t.a6 t.a7 t.a8 t.a9 t.a10 0) C)=0→((plN (Tms.mk t.a1 t.a2 t.a3 t.a4 t.a5 t.a6 t.a7 t.a8 t.a9 t.a10 0) C)=(plN (Tms.mk t.a1 t.a2 t.a3 t.a4 t.a5 t.a6 t.a7 t.a8 t.a9 t.a10 0) C)∧ ∀ i,i<(plN (Tms.mk t.a1 t.a2 t.a3 t.a4 t.a5 t.a6 t.a7 t.a8 t.a9 t.a10 0) C)→(fun i=>tD (Tms.mk t.a1 t.a2 t.a3 t.a4 t.a5 t.a6 t.a7 t.a8 t.a9 t.a10 0) i) i=(fun i=>(tR (Tms.mk t.a1 t.a2 t.a3 t.a4 t.a5 t.a6 t.a7 t.a8 t.a9 t.a10 0) C i).1) i)∧(plN (Tms.mk t.a1 t.a2 t.a3 t.a4 t.a5 t.a6 t.a7 t.a8 t.a9 t.a10 0) C)≤100000)))):
  S 7 [.agg [I t.a1,I t.a2,I t.a3,I t.a4,I t.a5,I t.a6,I t.a7,B (t.a8),B (t.a9),B (t.a10),I t.a11], .agg [B (C.off 0),B (C.off 1),B (C.off 2),B (C.off 3),B (C.off 4),B (C.off 5),B (C.off 6), .sl 0 C.nr, .sl 1 C.nd],N .u8 wa] (calH C) (B true) []:=by
 refine SCall.st fun X hX=> ?_
 refine hX.go [c_ [] shown17,c_ [] (rCheck t.a1 t.a2 t.a3 t.a4 t.a5 t.a6 t.a7 (t.a8) (t.a9) (t.a10) t.a11)] ?_
 by_cases h0:(chk t.a1 t.a2 t.a3 t.a4 t.a5 t.a6 t.a7 t.a11)=0
 ·have K1:=H h0
  refine hX.go [n_ 3 (f_ (bne_eq_false_iff_eq.2 h0)),c_ [0,1] (show S 10 [.agg [I t.a1,I t.a2,I t.a3,I t.a4,I t.a5,I t.a6,I t.a7,B (t.a8),B (t.a9),B (t.a10),I t.a11], .agg [B (C.off 0),B (C.off 1),B (C.off 2),B (C.off 3),B (C.off 4),B (C.off 5),B (C.off 6), .sl 0 C.nr, .sl 1 C.nd],I 60] (calH C) (B (shP t C 60)) []from rShort17 t (by decide)),f_ (bne_eq_false_iff_eq.2 h0),f_ (bne_eq_false_iff_eq.2 h0)] ?_
  rcases bcase (shP t C 60)with h1|h1
  ·obtain⟨h2,h3,h4,h5,c6,K6⟩:=K1 h1
   refine hX.go [f_ (nf h1),c_ [0,1] (show S 11 [.agg [I t.a1,I t.a2,I t.a3,I t.a4,I t.a5,I t.a6,I t.a7,B (t.a8),B (t.a9),B (t.a10),I 0], .agg [B (C.off 0),B (C.off 1),B (C.off 2),B (C.off 3),B (C.off 4),B (C.off 5),B (C.off 6), .sl 0 C.nr, .sl 1 C.nd]] (calH C) (.tup [.agg [.sl 2 (plN (Tms.mk t.a1 t.a2 t.a3 t.a4 t.a5 t.a6 t.a7 t.a8 t.a9 t.a10 0) C), .sl 3 (plN (Tms.mk t.a1 t.a2 t.a3 t.a4 t.a5 t.a6 t.a7 t.a8 t.a9 t.a10 0) C), .sl 4 (plN (Tms.mk t.a1 t.a2 t.a3 t.a4 t.a5 t.a6 t.a7 t.a8 t.a9 t.a10 0) C-1),B (plB (Tms.mk t.a1 t.a2 t.a3 t.a4 t.a5 t.a6 t.a7 t.a8 t.a9 t.a10 0) C),I (plE (Tms.mk t.a1 t.a2 t.a3 t.a4 t.a5 t.a6 t.a7 t.a8 t.a9 t.a10 0) C),I (plF (Tms.mk t.a1 t.a2 t.a3 t.a4 t.a5 t.a6 t.a7 t.a8 t.a9 t.a10 0) C), .sl 5 (plK (Tms.mk t.a1 t.a2 t.a3 t.a4 t.a5 t.a6 t.a7 t.a8 t.a9 t.a10 0) C)],I (schE (Tms.mk t.a1 t.a2 t.a3 t.a4 t.a5 t.a6 t.a7 t.a8 t.a9 t.a10 0) C)]) [some (.row true 3 (plN (Tms.mk t.a1 t.a2 t.a3 t.a4 t.a5 t.a6 t.a7 t.a8 t.a9 t.a10 0) C) 1 (fun i=>[I (tD (Tms.mk t.a1 t.a2 t.a3 t.a4 t.a5 t.a6 t.a7 t.a8 t.a9 t.a10 0) i)])),some (.row true 3 (plN (Tms.mk t.a1 t.a2 t.a3 t.a4 t.a5 t.a6 t.a7 t.a8 t.a9 t.a10 0) C) 1 (fun i=>[I ((tR (Tms.mk t.a1 t.a2 t.a3 t.a4 t.a5 t.a6 t.a7 t.a8 t.a9 t.a10 0) C i).1)])),some (.row true 48 (plN (Tms.mk t.a1 t.a2 t.a3 t.a4 t.a5 t.a6 t.a7 t.a8 t.a9 t.a10 0) C-1) 2 (fun i=>[I ((tP (Tms.mk t.a1 t.a2 t.a3 t.a4 t.a5 t.a6 t.a7 t.a8 t.a9 t.a10 0) C i).1),I ((tP (Tms.mk t.a1 t.a2 t.a3 t.a4 t.a5 t.a6 t.a7 t.a8 t.a9 t.a10 0) C i).2.1)])),some (.row true 3 (plK (Tms.mk t.a1 t.a2 t.a3 t.a4 t.a5 t.a6 t.a7 t.a8 t.a9 t.a10 0) C) 1 (fun i=>[I ((tQ (Tms.mk t.a1 t.a2 t.a3 t.a4 t.a5 t.a6 t.a7 t.a8 t.a9 t.a10 0) C i).1)]))]from sOf (Tms.mk t.a1 t.a2 t.a3 t.a4 t.a5 t.a6 t.a7 t.a8 t.a9 t.a10 0) h2 h3),q_ h4,q_ (show(5:Int)≠0 from by decide),h_ [.t],c_ [] (show S 11 [.agg [I t.a1,I t.a2,I t.a3,I t.a4,I t.a5,I t.a6,I t.a7,B (t.a8),B (t.a9),B (t.a10),I (Int.tmod wa 5)], .agg [B false,B false,B false,B false,B false,B false,B false, .val (.slice none 0 0), .val (.slice none 0 0)]] [] (.tup [.agg [.sl 0 (plN (Tms.mk t.a1 t.a2 t.a3 t.a4 t.a5 t.a6 t.a7 t.a8 t.a9 t.a10 (Int.tmod wa 5)) cal0), .sl 1 (plN (Tms.mk t.a1 t.a2 t.a3 t.a4 t.a5 t.a6 t.a7 t.a8 t.a9 t.a10 (Int.tmod wa 5)) cal0), .sl 2 (plN (Tms.mk t.a1 t.a2 t.a3 t.a4 t.a5 t.a6 t.a7 t.a8 t.a9 t.a10 (Int.tmod wa 5)) cal0-1),B (plB (Tms.mk t.a1 t.a2 t.a3 t.a4 t.a5 t.a6 t.a7 t.a8 t.a9 t.a10 (Int.tmod wa 5)) cal0),I (plE (Tms.mk t.a1 t.a2 t.a3 t.a4 t.a5 t.a6 t.a7 t.a8 t.a9 t.a10 (Int.tmod wa 5)) cal0),I (plF (Tms.mk t.a1 t.a2 t.a3 t.a4 t.a5 t.a6 t.a7 t.a8 t.a9 t.a10 (Int.tmod wa 5)) cal0), .sl 3 (plK (Tms.mk t.a1 t.a2 t.a3 t.a4 t.a5 t.a6 t.a7 t.a8 t.a9 t.a10 (Int.tmod wa 5)) cal0)],I (schE (Tms.mk t.a1 t.a2 t.a3 t.a4 t.a5 t.a6 t.a7 t.a8 t.a9 t.a10 (Int.tmod wa 5)) cal0)]) [some (.row true 3 (plN (Tms.mk t.a1 t.a2 t.a3 t.a4 t.a5 t.a6 t.a7 t.a8 t.a9 t.a10 (Int.tmod wa 5)) cal0) 1 (fun i=>[I (tD (Tms.mk t.a1 t.a2 t.a3 t.a4 t.a5 t.a6 t.a7 t.a8 t.a9 t.a10 (Int.tmod wa 5)) i)])),some (.row true 3 (plN (Tms.mk t.a1 t.a2 t.a3 t.a4 t.a5 t.a6 t.a7 t.a8 t.a9 t.a10 (Int.tmod wa 5)) cal0) 1 (fun i=>[I ((tR (Tms.mk t.a1 t.a2 t.a3 t.a4 t.a5 t.a6 t.a7 t.a8 t.a9 t.a10 (Int.tmod wa 5)) cal0 i).1)])),some (.row true 48 (plN (Tms.mk t.a1 t.a2 t.a3 t.a4 t.a5 t.a6 t.a7 t.a8 t.a9 t.a10 (Int.tmod wa 5)) cal0-1) 2 (fun i=>[I ((tP (Tms.mk t.a1 t.a2 t.a3 t.a4 t.a5 t.a6 t.a7 t.a8 t.a9 t.a10 (Int.tmod wa 5)) cal0 i).1),I ((tP (Tms.mk t.a1 t.a2 t.a3 t.a4 t.a5 t.a6 t.a7 t.a8 t.a9 t.a10 (Int.tmod wa 5)) cal0 i).2.1)])),some (.row true 3 (plK (Tms.mk t.a1 t.a2 t.a3 t.a4 t.a5 t.a6 t.a7 t.a8 t.a9 t.a10 (Int.tmod wa 5)) cal0) 1 (fun i=>[I ((tQ (Tms.mk t.a1 t.a2 t.a3 t.a4 t.a5 t.a6 t.a7 t.a8 t.a9 t.a10 (Int.tmod wa 5)) cal0 i).1)]))]from sOfN (Tms.mk t.a1 t.a2 t.a3 t.a4 t.a5 t.a6 t.a7 t.a8 t.a9 t.a10 (Int.tmod wa 5)) h5)] ?_
   by_cases h6:(schE (Tms.mk t.a1 t.a2 t.a3 t.a4 t.a5 t.a6 t.a7 t.a8 t.a9 t.a10 0) C)=(schE (Tms.mk t.a1 t.a2 t.a3 t.a4 t.a5 t.a6 t.a7 t.a8 t.a9 t.a10 (Int.tmod wa 5)) cal0)
   ·obtain⟨h7,h8,h9,h10,h11,h12,h13,h14,h15,h16,L17,K17⟩:=K6
    refine hX.go [n_ 3 (f_ (bne_eq_false_iff_eq.2 h6)),c_ [5,6,7,8,10,11,12,13] (show S 13 [.agg [.sl 0 (plN (Tms.mk t.a1 t.a2 t.a3 t.a4 t.a5 t.a6 t.a7 t.a8 t.a9 t.a10 0) C), .sl 1 (plN (Tms.mk t.a1 t.a2 t.a3 t.a4 t.a5 t.a6 t.a7 t.a8 t.a9 t.a10 0) C), .sl 2 (plN (Tms.mk t.a1 t.a2 t.a3 t.a4 t.a5 t.a6 t.a7 t.a8 t.a9 t.a10 0) C-1),B (plB (Tms.mk t.a1 t.a2 t.a3 t.a4 t.a5 t.a6 t.a7 t.a8 t.a9 t.a10 0) C),I (plE (Tms.mk t.a1 t.a2 t.a3 t.a4 t.a5 t.a6 t.a7 t.a8 t.a9 t.a10 0) C),I (plF (Tms.mk t.a1 t.a2 t.a3 t.a4 t.a5 t.a6 t.a7 t.a8 t.a9 t.a10 0) C), .sl 3 (plK (Tms.mk t.a1 t.a2 t.a3 t.a4 t.a5 t.a6 t.a7 t.a8 t.a9 t.a10 0) C)], .agg [.sl 4 (plN (Tms.mk t.a1 t.a2 t.a3 t.a4 t.a5 t.a6 t.a7 t.a8 t.a9 t.a10 (Int.tmod wa 5)) cal0), .sl 5 (plN (Tms.mk t.a1 t.a2 t.a3 t.a4 t.a5 t.a6 t.a7 t.a8 t.a9 t.a10 (Int.tmod wa 5)) cal0), .sl 6 (plN (Tms.mk t.a1 t.a2 t.a3 t.a4 t.a5 t.a6 t.a7 t.a8 t.a9 t.a10 (Int.tmod wa 5)) cal0-1),B (plB (Tms.mk t.a1 t.a2 t.a3 t.a4 t.a5 t.a6 t.a7 t.a8 t.a9 t.a10 (Int.tmod wa 5)) cal0),I (plE (Tms.mk t.a1 t.a2 t.a3 t.a4 t.a5 t.a6 t.a7 t.a8 t.a9 t.a10 (Int.tmod wa 5)) cal0),I (plF (Tms.mk t.a1 t.a2 t.a3 t.a4 t.a5 t.a6 t.a7 t.a8 t.a9 t.a10 (Int.tmod wa 5)) cal0), .sl 7 (plK (Tms.mk t.a1 t.a2 t.a3 t.a4 t.a5 t.a6 t.a7 t.a8 t.a9 t.a10 (Int.tmod wa 5)) cal0)]] [some (.row false 3 (plN (Tms.mk t.a1 t.a2 t.a3 t.a4 t.a5 t.a6 t.a7 t.a8 t.a9 t.a10 0) C) 1 (fun i=>[I (tD (Tms.mk t.a1 t.a2 t.a3 t.a4 t.a5 t.a6 t.a7 t.a8 t.a9 t.a10 0) i)])),some (.row false 3 (plN (Tms.mk t.a1 t.a2 t.a3 t.a4 t.a5 t.a6 t.a7 t.a8 t.a9 t.a10 0) C) 1 (fun i=>[I ((tR (Tms.mk t.a1 t.a2 t.a3 t.a4 t.a5 t.a6 t.a7 t.a8 t.a9 t.a10 0) C i).1)])),some (.row false 48 (plN (Tms.mk t.a1 t.a2 t.a3 t.a4 t.a5 t.a6 t.a7 t.a8 t.a9 t.a10 0) C-1) 2 (fun i=>[I ((tP (Tms.mk t.a1 t.a2 t.a3 t.a4 t.a5 t.a6 t.a7 t.a8 t.a9 t.a10 0) C i).1),I ((tP (Tms.mk t.a1 t.a2 t.a3 t.a4 t.a5 t.a6 t.a7 t.a8 t.a9 t.a10 0) C i).2.1)])),some (.row false 3 (plK (Tms.mk t.a1 t.a2 t.a3 t.a4 t.a5 t.a6 t.a7 t.a8 t.a9 t.a10 0) C) 1 (fun i=>[I ((tQ (Tms.mk t.a1 t.a2 t.a3 t.a4 t.a5 t.a6 t.a7 t.a8 t.a9 t.a10 0) C i).1)])),some (.row false 3 (plN (Tms.mk t.a1 t.a2 t.a3 t.a4 t.a5 t.a6 t.a7 t.a8 t.a9 t.a10 (Int.tmod wa 5)) cal0) 1 (fun i=>[I (tD (Tms.mk t.a1 t.a2 t.a3 t.a4 t.a5 t.a6 t.a7 t.a8 t.a9 t.a10 (Int.tmod wa 5)) i)])),some (.row false 3 (plN (Tms.mk t.a1 t.a2 t.a3 t.a4 t.a5 t.a6 t.a7 t.a8 t.a9 t.a10 (Int.tmod wa 5)) cal0) 1 (fun i=>[I ((tR (Tms.mk t.a1 t.a2 t.a3 t.a4 t.a5 t.a6 t.a7 t.a8 t.a9 t.a10 (Int.tmod wa 5)) cal0 i).1)])),some (.row false 48 (plN (Tms.mk t.a1 t.a2 t.a3 t.a4 t.a5 t.a6 t.a7 t.a8 t.a9 t.a10 (Int.tmod wa 5)) cal0-1) 2 (fun i=>[I ((tP (Tms.mk t.a1 t.a2 t.a3 t.a4 t.a5 t.a6 t.a7 t.a8 t.a9 t.a10 (Int.tmod wa 5)) cal0 i).1),I ((tP (Tms.mk t.a1 t.a2 t.a3 t.a4 t.a5 t.a6 t.a7 t.a8 t.a9 t.a10 (Int.tmod wa 5)) cal0 i).2.1)])),some (.row false 3 (plK (Tms.mk t.a1 t.a2 t.a3 t.a4 t.a5 t.a6 t.a7 t.a8 t.a9 t.a10 (Int.tmod wa 5)) cal0) 1 (fun i=>[I ((tQ (Tms.mk t.a1 t.a2 t.a3 t.a4 t.a5 t.a6 t.a7 t.a8 t.a9 t.a10 (Int.tmod wa 5)) cal0 i).1)]))] (B true) []from rSame h7 h8 h9 h10 h11 h12 h13 h14 h14 h15 h16),f_ (bne_eq_false_iff_eq.2 h6),f_ (bne_eq_false_iff_eq.2 h6),f_ rf,n_ 3 (t_ rt)] ?_
    by_cases h17:(schE (Tms.mk t.a1 t.a2 t.a3 t.a4 t.a5 t.a6 t.a7 t.a8 t.a9 t.a10 0) C)=0
    ·obtain⟨h18,h19⟩:=K17 h17
     exact hX.e [n_ 5 (f_ (bne_eq_false_iff_eq.2 h17)),c_ [5,6] (show S 20 [.sl 0 (plN (Tms.mk t.a1 t.a2 t.a3 t.a4 t.a5 t.a6 t.a7 t.a8 t.a9 t.a10 0) C), .sl 1 (plN (Tms.mk t.a1 t.a2 t.a3 t.a4 t.a5 t.a6 t.a7 t.a8 t.a9 t.a10 0) C)] [some (.row false 3 (plN (Tms.mk t.a1 t.a2 t.a3 t.a4 t.a5 t.a6 t.a7 t.a8 t.a9 t.a10 0) C) 1 (fun i=>[I (tD (Tms.mk t.a1 t.a2 t.a3 t.a4 t.a5 t.a6 t.a7 t.a8 t.a9 t.a10 0) i)])),some (.row false 3 (plN (Tms.mk t.a1 t.a2 t.a3 t.a4 t.a5 t.a6 t.a7 t.a8 t.a9 t.a10 0) C) 1 (fun i=>[I ((tR (Tms.mk t.a1 t.a2 t.a3 t.a4 t.a5 t.a6 t.a7 t.a8 t.a9 t.a10 0) C i).1)]))] (B true) []from rRowT h18 h19),t_ rt,f_ (bne_eq_false_iff_eq.2 h17),n_ 4 (t_ rt),n_ 4 (t_ (beq_iff_eq.2 h17)),t_ rt,t_ (beq_iff_eq.2 h17),t_ rt]
    ·obtain⟨c18,K18⟩:=L17 h17
     refine hX.go [n_ 5 (t_ (bne_iff_ne.2 h17)),t_ rt,t_ (bne_iff_ne.2 h17),n_ 4 (t_ rt),n_ 3 (f_ (beq_eq_false_iff_ne.2 h17))] ?_
     by_cases h18:(schE (Tms.mk t.a1 t.a2 t.a3 t.a4 t.a5 t.a6 t.a7 t.a8 t.a9 t.a10 0) C)=5
     ·have HE:=K18
      exact(hX.to (congrArg B HE).symm).e [n_ 3 (t_ (beq_iff_eq.2 h18)),f_ (beq_eq_false_iff_ne.2 h17),t_ (beq_iff_eq.2 h18),t_ rt,f_ (beq_eq_false_iff_ne.2 h17),t_ rt]
     ·exact absurd c18 h18
   ·exact absurd c6 h6
  ·exact hX.e [t_ (nt h1)]
 ·exact hX.e [n_ 5 (t_ (bne_iff_ne.2 h0)),t_ rt]
theorem lOpen (t:Tms) (C:Cl) {wa:Int} (hw:InR .u8 wa):S 7 [tmL t,calL C,N .u8 wa] (calH C) (B true) []:=by
 refine lOpen_w fun(h0:tCk t=0) h=> ?_
 have hm:=shP_t h (by decide)
 simp only[InR]at hw
 exact open_plain (by omega) h0 hm.2.1 hm.1 (fun u C hs=>plN_le hs) (fun u C hs=>plK_le hs)
end Go.Proofs.YtgojmodiaffcbaaGreatDoor
