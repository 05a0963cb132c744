/-
Plans (chapter 17): sched.Of.
-/
import Derived.Test.YtelidogcomffkaaGreatDoorRl
import Derived.Test.YtelidogcomffkaaGreatDoorDo
import Derived.Test.YtelidogcomffkaaGreatDoorProg
import Derived.KernelRfl
set_option linter.unusedSectionVars false
set_option linter.unusedSimpArgs false
set_option linter.unusedVariables false
set_option maxRecDepth 100000
namespace Go.Proofs.YtelidogcomffkaaGreatDoor
open Go Go.Sx
variable [EnvT]
def shB (s e k:Int):Bool:=decide (e-s≤31*k∧s≤e)
theorem rowT {n m:Nat} {f g:Nat→Int} (h:n=m∧ ∀ i,i<n→f i=g i) (hn:n≤100000:=by decide):S 58 [.sl 0 n, .sl 1 m] [ri n f,ri m g] (B true) []:=by
 have:=rRow (n:=n) (m:=m) (f:=f) (g:=g) (by omega)
 rw[decide_eq_true h]at this
 exact this
end Go.Proofs.YtelidogcomffkaaGreatDoor
namespace Go.Proofs.YtelidogcomffkaaGreatDoor
open Go Go.Sx
variable [EnvT]
theorem shB_t {s e k:Int} (h:shB s e k=true):e-s≤31*k∧s≤e:=of_decide_eq_true h
theorem rRowT {n m:Nat} {f g:Nat→Int} (h:n=m∧ ∀ i,i<n→f i=g i) (hn:n≤100000):S 58 [.sl 0 n, .sl 1 m] [ri n f,ri m g] (B true) []:=rowT h hn
theorem dM_le {s e mo:Int} {long back eom:Bool}:dM s e mo long back eom≤mN s e mo back eom:=by unfold dM;(repeat' split)<;>omega
end Go.Proofs.YtelidogcomffkaaGreatDoor
namespace Go.Proofs.YtelidogcomffkaaGreatDoor
open Go Go.Sx
variable [EnvT]
variable {s e mo:Int} {long back eom:Bool}
theorem dV_zero:dV s e mo long back eom 0=s:=by unfold dV catV;rw[if_pos rfl]
theorem dV_last:dV s e mo long back eom (dM s e mo long back eom+1)=e:=by unfold dV catV;rw[if_neg (by omega),if_neg (by omega)]
theorem dV_in {i:Nat} (h1:1≤i) (h2:i≤dM s e mo long back eom):dV s e mo long back eom i=gcV s e mo back eom (dO s e mo long back eom+(i-1)):=by
 unfold dV catV;rw[if_neg (by omega),if_pos (by omega)]
theorem dV_back (h:Loan s e mo) (hs:e-s≤6200*mo) (hb:back=true) {i:Nat} (h1:1≤i) (h2:i≤dM s e mo long back eom+1):
  dV s e mo long back eom i=(stp s e mo back eom (dM s e mo long back eom+1-i)).1:=by
 have hm:=mN_le (back:=back) (eom:=eom) h hs
 have hd:=dM_le (s:=s) (e:=e) (mo:=mo) (long:=long) (back:=back) (eom:=eom)
 rcases Nat.lt_or_ge (dM s e mo long back eom) i with g|g
 ·rw[show i=dM s e mo long back eom+1 by omega,dV_last,Nat.sub_self,stp_zero h,if_pos hb]
 ·rw[dV_in h1 g]
  unfold gcV dO
  rw[if_pos hb,if_pos hb]
  congr 2;omega
theorem dV_fwd (h:Loan s e mo) (hb:back=false) {i:Nat} (h2:i≤dM s e mo long back eom):dV s e mo long back eom i=(stp s e mo back eom i).1:=by
 rcases Nat.eq_zero_or_pos i with rfl|g
 ·rw[dV_zero,stp_zero h,if_neg (by rw[hb];decide)]
 ·rw[dV_in g h2]
  unfold gcV dO
  rw[if_neg (by rw[hb];decide),if_neg (by rw[hb];decide)]
  congr 2;omega
theorem stp_d (h:Loan s e mo) (hs:e-s≤6200*mo) {j:Nat} (hj:j≤dM s e mo long back eom):(stp s e mo back eom j).2=0:=by
 have hm:=mN_le (back:=back) (eom:=eom) h hs
 have hd:=dM_le (s:=s) (e:=e) (mo:=mo) (long:=long) (back:=back) (eom:=eom)
 exact(gN_ok (back:=back) (eom:=eom) h hs).1 j (by omega)
theorem stp_b (h:Loan s e mo) (hs:e-s≤6200*mo) {j:Nat} (h1:1≤j) (hj:j≤dM s e mo long back eom):s<(stp s e mo back eom j).1∧(stp s e mo back eom j).1<e:=by
 have hm:=mN_le (back:=back) (eom:=eom) h hs
 have hd:=dM_le (s:=s) (e:=e) (mo:=mo) (long:=long) (back:=back) (eom:=eom)
 exact btw_t.1 ((st_btw h hs (by omega)).2 ⟨h1,by omega⟩)
theorem dV_mid (h:Loan s e mo) (hs:e-s≤6200*mo) {i:Nat} (h1:1≤i) (h2:i≤dM s e mo long back eom):s<dV s e mo long back eom i∧dV s e mo long back eom i<e:=by
 rcases bcase back with hb|hb
 ·rw[dV_back h hs hb h1 (by omega)];exact stp_b (long:=long) h hs (by omega) (by omega)
 ·rw[dV_fwd h hb h2];exact stp_b (long:=long) h hs h1 h2
theorem dV_rise (h:Loan s e mo) (hs:e-s≤6200*mo) {i:Nat} (hi:i≤dM s e mo long back eom):dV s e mo long back eom i<dV s e mo long back eom (i+1):=by
 rcases Nat.eq_zero_or_pos i with rfl|g
 ·rw[dV_zero]
  rcases Nat.eq_zero_or_pos (dM s e mo long back eom)with c|c
  ·have:=dV_last (s:=s) (e:=e) (mo:=mo) (long:=long) (back:=back) (eom:=eom)
   rw[c]at this;rw[this];exact h.se
  ·exact(dV_mid h hs (Nat.le_refl _) c).1
 ·rcases Nat.lt_or_ge i (dM s e mo long back eom)with c|c
  ·rcases bcase back with hb|hb
   ·have:=stp_mono (s:=s) (e:=e) (mo:=mo) (back:=back) (eom:=eom) h (j:=dM s e mo long back eom+1-(i+1)) (k:=dM s e mo long back eom+1-i) (by omega) (stp_d (long:=long) h hs (by omega)) (stp_d (long:=long) h hs (by omega))
    rw[if_pos hb]at this
    rw[dV_back h hs hb g (by omega),dV_back h hs hb (by omega) (by omega)];exact this
   ·have:=stp_mono (s:=s) (e:=e) (mo:=mo) (back:=back) (eom:=eom) h (j:=i) (k:=i+1) (by omega) (stp_d (long:=long) h hs (by omega)) (stp_d (long:=long) h hs (by omega))
    rw[if_neg (by rw[hb];decide)]at this
    rw[dV_fwd h hb hi,dV_fwd h hb c];exact this
  ·rw[show i+1=dM s e mo long back eom+1 by omega,dV_last];exact(dV_mid h hs g hi).2
theorem dN_eq {a1 a2 a3 a4 a5 a6 a7 a11:Int} {a8 a9 a10:Bool} (h:chk a1 a2 a3 a4 a5 a6 a7 a11=0):dN a1 a2 a3 a4 a5 a6 a7 a8 a9 a10 a11=dM a5 a6 a7 a9 a8 a10+2:=by unfold dN;rw[if_pos h]
theorem gcN_eq {a1 a2 a3 a4 a5 a6 a7 a11:Int} {a8 a10:Bool} (h:chk a1 a2 a3 a4 a5 a6 a7 a11=0):gcN a1 a2 a3 a4 a5 a6 a7 a8 a10 a11=gN a5 a6 a7 a8 a10:=by unfold gcN;rw[if_pos h]
end Go.Proofs.YtelidogcomffkaaGreatDoor
namespace Go.Proofs.YtelidogcomffkaaGreatDoor
open Go Go.Sx
variable [EnvT]
structure Tms where
 a1:Int
 a2:Int
 a3:Int
 a4:Int
 a5:Int
 a6:Int
 a7:Int
 a8:Bool
 a9:Bool
 a10:Bool
 a11:Int
abbrev tmL (t:Tms):SV:= .agg [I t.a1,I t.a2,I t.a3,I t.a4,I t.a5,I t.a6,I t.a7,B t.a8,B t.a9,B t.a10,I t.a11]
def fstE (f:Nat→Int):Nat→Int
 |0=>0
 |n+1=>if fstE f n≠0 then fstE f n else f n
theorem fstE_no {f:Nat→Int}: ∀ {n:Nat},(∀ i,i<n→f i=0)→fstE f n=0
 |0,_=>rfl
 |n+1,h=>by unfold fstE;rw[fstE_no (fun i hi=>h i (by omega)),if_neg (by decide)];exact h n (by omega)
theorem fstE_at {f:Nat→Int} {i:Nat} (hj: ∀ j,j<i→f j=0) (hi:f i≠0): ∀ {n:Nat},i<n→fstE f n=f i
 |0,h=>absurd h (Nat.not_lt_zero _)
 |n+1,h=>by
  unfold fstE
  rcases Nat.lt_or_ge i n with c|c
  ·rw[fstE_at hj hi c,if_pos hi]
  ·rw[show n=i by omega,fstE_no hj,if_neg (by decide)]
theorem fstE_0 {f:Nat→Int}: ∀ {n:Nat},fstE f n=0→ ∀ i,i<n→f i=0
 |0,_,i,hi=>absurd hi (Nat.not_lt_zero _)
 |n+1,h,i,hi=>by
  unfold fstE at h
  split at h
  ·rename_i c;exact absurd h c
  ·rename_i c
   have c:=Decidable.not_not.1 c
   rcases Nat.lt_or_ge i n with d|d
   ·exact fstE_0 c i d
   ·rw[show i=n by omega];exact h
def tCk (t:Tms):Int:=chk t.a1 t.a2 t.a3 t.a4 t.a5 t.a6 t.a7 t.a11
def tN (t:Tms):Nat:=dN t.a1 t.a2 t.a3 t.a4 t.a5 t.a6 t.a7 t.a8 t.a9 t.a10 t.a11
def tD (t:Tms) (i:Nat):Int:=dV t.a5 t.a6 t.a7 t.a9 t.a8 t.a10 i
def tG (t:Tms):Nat:=gcN t.a1 t.a2 t.a3 t.a4 t.a5 t.a6 t.a7 t.a8 t.a10 t.a11
def tV (t:Tms) (i:Nat):Int:=gcV t.a5 t.a6 t.a7 t.a8 t.a10 i
def tSh (t:Tms):Prop:=tCk t=0→t.a6-t.a5≤6200*t.a7
noncomputable def tR (t:Tms) (C:Cl) (i:Nat):Int×Int:=toV C (tD t i) t.a11
noncomputable def tQ (t:Tms) (C:Cl) (i:Nat):Int×Int:=toV C (tV t i) t.a11
noncomputable def tE (t:Tms) (C:Cl):Int:=(tR t C (tN t-1)).1
def tK (t:Tms):Nat:=if t.a4=6 then tG t else 0
noncomputable def tP (t:Tms) (C:Cl) (i:Nat):Int×Int×Int:=partC t.a4 (tR t C i).1 (tR t C (i+1)).1 t.a10 (tE t C) (frq t.a7) (tK t) (fun i=>(tQ t C i).1)
noncomputable def schE (t:Tms) (C:Cl):Int:=if tCk t≠0 then tCk t else if fstE (fun i=>(tR t C i).2) (tN t)≠0 then fstE (fun i=>(tR t C i).2) (tN t)else
 if t.a4=6∧fstE (fun i=>(tQ t C i).2) (tG t)≠0 then fstE (fun i=>(tQ t C i).2) (tG t)else fstE (fun i=>(tP t C i).2.2) (tN t-1)
noncomputable def plN (t:Tms) (C:Cl):Nat:=if schE t C=0 then tN t else 0
noncomputable def plB (t:Tms) (C:Cl):Bool:=if schE t C=0 then t.a10 else false
noncomputable def plE (t:Tms) (C:Cl):Int:=if schE t C=0 then tE t C else 0
noncomputable def plF (t:Tms) (C:Cl):Int:=if schE t C=0 then frq t.a7 else 0
noncomputable def plK (t:Tms) (C:Cl):Nat:=if schE t C=0 then tK t else 0
noncomputable def plS (t:Tms) (C:Cl) (e:Int):SV:= .tup [.agg [.sl 2 (plN t C), .sl 3 (plN t C), .sl 4 (plN t C-1),B (plB t C),I (plE t C),I (plF t C), .sl 5 (plK t C)],I e]
noncomputable def ratV (n:Nat) (p:Nat→Int×Int×Int):Option Vw:=some (.row true 121 n 2 (fun i=>[I (p i).1,I (p i).2.1]))
noncomputable def plV (t:Tms) (C:Cl):List (Option Vw):=[ro (plN t C) (tD t),ro (plN t C) (fun i=>(tR t C i).1),ratV (plN t C-1) (tP t C),ro (plK t C) (fun i=>(tQ t C i).1)]
theorem tCk_loan {t:Tms} (h:tCk t=0):Loan t.a5 t.a6 t.a7:=chk_loan h
theorem tN_eq {t:Tms} (h:tCk t=0):tN t=dM t.a5 t.a6 t.a7 t.a9 t.a8 t.a10+2:=dN_eq h
theorem tG_eq {t:Tms} (h:tCk t=0):tG t=gN t.a5 t.a6 t.a7 t.a8 t.a10:=gcN_eq h
theorem tN_le {t:Tms} (h:tCk t=0) (hs:tSh t):2≤tN t∧tN t≤252:=by
 have hL:=tCk_loan h
 have a:=mN_le (back:=t.a8) (eom:=t.a10) hL (hs h)
 have b:=(gN_le (back:=t.a8) (eom:=t.a10) hL (hs h)).2
 have c:=dM_le (s:=t.a5) (e:=t.a6) (mo:=t.a7) (long:=t.a9) (back:=t.a8) (eom:=t.a10)
 rw[tN_eq h];omega
theorem tG_le {t:Tms} (h:tCk t=0) (hs:tSh t):1≤tG t∧tG t≤250:=by rw[tG_eq h];exact gN_le (tCk_loan h) (hs h)
theorem tD_day {t:Tms} (h:tCk t=0) (hs:tSh t) {i:Nat} (hi:i<tN t):isDay (tD t i)=true:=by
 have hL:=tCk_loan h
 have d1:=isDay_iff.1 hL.ds
 have d2:=isDay_iff.1 hL.de
 rw[tN_eq h]at hi
 unfold tD
 rcases Nat.eq_zero_or_pos i with rfl|c
 ·rw[dV_zero];exact hL.ds
 ·rcases Nat.lt_or_ge (dM t.a5 t.a6 t.a7 t.a9 t.a8 t.a10) i with d|d
  ·rw[show i=dM t.a5 t.a6 t.a7 t.a9 t.a8 t.a10+1 by omega,dV_last];exact hL.de
  ·have:=dV_mid (long:=t.a9) (back:=t.a8) (eom:=t.a10) hL (hs h) c d
   exact isDay_iff.2 (by omega)
theorem tV_day {t:Tms} (h:tCk t=0) (hs:tSh t) {i:Nat} (hi:i<tG t):isDay (tV t i)=true:=by
 have hL:=tCk_loan h
 rw[tG_eq h]at hi
 obtain⟨q1, -, -⟩:=gN_ok (back:=t.a8) (eom:=t.a10) hL (hs h)
 have key: ∀ j,j<gN t.a5 t.a6 t.a7 t.a8 t.a10→isDay (stp t.a5 t.a6 t.a7 t.a8 t.a10 j).1=true:=by
  intro j hj
  have z:=q1 j hj
  unfold stp at z⊢
  by_cases hb:t.a8=true
  ·rw[if_pos hb]at z⊢;exact mv_day z
  ·rw[if_neg hb]at z⊢;exact mv_day z
 unfold tV gcV
 split
 ·exact key _ (by omega)
 ·exact key _ hi
theorem IsFin.nilp {X:Cx} {f:FuncId} {hp0:List (Option Vw)} {g1 g2 g4:Nat→Int} {p:Nat→Int×Int×Int} {e:Int} (h2:hp0.length=2)
  (hX:Fi X f hp0 (.tup [.agg [.sl 2 0, .sl 3 0, .sl 4 0,B false,I 0,I 0, .sl 5 0],I e]) [ro 0 g1,ro 0 g2,ratV 0 p,ro 0 g4]):
  Fi X f hp0 (.tup [.agg [.val (.slice none 0 0), .val (.slice none 0 0), .val (.slice none 0 0),B false,I 0,I 0, .val (.slice none 0 0)],I e]) []:=by
 have s1:=IsFin.nil1 (new:=[ro 0 g1,ro 0 g2,ratV 0 p]) (res':= .tup [.agg [.sl 2 0, .sl 3 0, .sl 4 0,B false,I 0,I 0, .val (.slice none 0 0)],I e]) hX (fun θ' h=>by
  rw[h2]at h;have h:θ' 5=_:=h;simp only[den,denL,h])
 have s2:=IsFin.nil1 (new:=[ro 0 g1,ro 0 g2]) (res':= .tup [.agg [.sl 2 0, .sl 3 0, .val (.slice none 0 0),B false,I 0,I 0, .val (.slice none 0 0)],I e]) s1 (fun θ' h=>by
  rw[h2]at h;have h:θ' 4=_:=h;simp only[den,denL,h])
 have s3:=IsFin.nil1 (new:=[ro 0 g1]) (res':= .tup [.agg [.sl 2 0, .val (.slice none 0 0), .val (.slice none 0 0),B false,I 0,I 0, .val (.slice none 0 0)],I e]) s2 (fun θ' h=>by
  rw[h2]at h;have h:θ' 3=_:=h;simp only[den,denL,h])
 exact IsFin.nil1 (new:=[]) s3 (fun θ' h=>by
  rw[h2]at h;have h:θ' 2=_:=h;simp only[den,denL,h])
theorem no_plan {X:Cx} {t:Tms} {C:Cl} {f:FuncId} {hp0:List (Option Vw)} (h2:hp0.length=2) (hX:Fi X f hp0 (plS t C (schE t C)) (plV t C)) (h:schE t C≠0):
  Fi X f hp0 (.tup [.agg [.val (.slice none 0 0), .val (.slice none 0 0), .val (.slice none 0 0),B false,I 0,I 0, .val (.slice none 0 0)],I (schE t C)]) []:=by
 unfold plS plV at hX
 rw[show plN t C=0 from if_neg h,show plB t C=false from if_neg h,show plE t C=0 from if_neg h,show plF t C=0 from if_neg h,show plK t C=0 from if_neg h]at hX
 exact IsFin.nilp h2 hX
theorem the_plan {X:Cx} {t:Tms} {C:Cl} {f:FuncId} {hp0:List (Option Vw)} (hX:Fi X f hp0 (plS t C (schE t C)) (plV t C)) (h:schE t C=0):
  Fi X f hp0 (.tup [.agg [.sl 2 (tN t), .sl 3 (tN t), .sl 4 (tN t-1),B t.a10,I (tE t C),I (frq t.a7), .sl 5 (tK t)],I 0]) [ro (tN t) (tD t),ro (tN t) (fun i=>(tR t C i).1),ratV (tN t-1) (tP t C),ro (tK t) (fun i=>(tQ t C i).1)]:=by
 unfold plS plV at hX
 rw[show plN t C=tN t from if_pos h,show plB t C=t.a10 from if_pos h,show plE t C=tE t C from if_pos h,show plF t C=frq t.a7 from if_pos h,show plK t C=tK t from if_pos h,h]at hX
 exact hX
noncomputable def sOf_h0 (a1:Int) (a2:Int) (a3:Int) (a4:Int) (a5:Int) (a6:Int) (a7:Int) (a8:Bool) (a9:Bool) (a10:Bool) (a11:Int) (C:Cl):SC:=
 ⟨[⟨31,slo 47 [(4, .ptr 4 0),(5, .ptr 5 0),(6, .ptr 7 0),(15, .fn (.func 49) [] [.ptr 5 0, .ptr 7 0, .ptr 4 0])],[.inRegion (opsAt Tryz.f31 [1,1,0]) [1], .code (bodyAt Tryz.f31 [1,1,1])],{}⟩],[some (.row false 109 C.nr 8 (fun i=>[I ((C.R i).kind),I ((C.R i).mon),I ((C.R i).day),I ((C.R i).k),I ((C.R i).off),I ((C.R i).sh),I ((C.R i).fr),I ((C.R i).to)])),some (.row false 3 C.nd 1 (fun i=>[I (C.D i)])),none,none,some (.box true [.val (.slice none 0 0), .val (.slice none 0 0), .val (.slice none 0 0),B false,I 0,I 0, .val (.slice none 0 0)]),some (.box true [I 0]),some (.box true [I a1,I a2,I a3,I a4,I a5,I a6,I a7,B a8,B a9,B a10,I a11,B (C.off 0),B (C.off 1),B (C.off 2),B (C.off 3),B (C.off 4),B (C.off 5),B (C.off 6), .sl 0 C.nr, .sl 1 C.nd, .val (.slice none 0 0), .val (.slice none 0 0), .val (.slice none 0 0),B false,I 0,I 0, .val (.slice none 0 0)]),some (.box true [.ptr 6 0])]⟩
theorem sOf_w0 {X:Cx} {a1 a2 a3 a4 a5 a6 a7:Int} {a8 a9 a10:Bool} {a11:Int} {C:Cl} {res:SV} {new:List (Option Vw)} (hX:Fi X 31 (calH C) (res) new) (H:Ok X (sOf_h0 a1 a2 a3 a4 a5 a6 a7 a8 a9 a10 a11 C)):
  Ok X (entry Tryz.prog 31 [.agg [I a1,I a2,I a3,I a4,I a5,I a6,I a7,B a8,B a9,B a10,I a11], .agg [B (C.off 0),B (C.off 1),B (C.off 2),B (C.off 3),B (C.off 4),B (C.off 5),B (C.off 6), .sl 0 C.nr, .sl 1 C.nd]] (calH C)):=by
 have k:=H
 exact hX.h 19 [] [.old 0, .old 1, .old 1002, .old 1003, .old 4, .old 5, .old 6, .old 7] k
noncomputable def sB_s (a1:Int) (a2:Int) (a3:Int) (a4:Int) (a5:Int) (a6:Int) (a7:Int) (a8:Bool) (a9:Bool) (a10:Bool) (a11:Int) (C:Cl) (θ1:Th):SC:=
 ⟨[⟨31,slo 47 [(4, .ptr 4 0),(5, .ptr 5 0),(6, .ptr 7 0),(15, .fn (.func 49) [] [.ptr 5 0, .ptr 7 0, .ptr 4 0])],[.inRegion (opsAt Tryz.f31 [1,1,0]) [], .code (bodyAt Tryz.f31 [1,1,1])],⟨none,[{target:= .fn (.func 49) (denL θ1 [.ptr 5 0, .ptr 7 0, .ptr 4 0]).toArray,args:= #[]}],false⟩⟩],[some (.row false 109 C.nr 8 (fun i=>[I ((C.R i).kind),I ((C.R i).mon),I ((C.R i).day),I ((C.R i).k),I ((C.R i).off),I ((C.R i).sh),I ((C.R i).fr),I ((C.R i).to)])),some (.row false 3 C.nd 1 (fun i=>[I (C.D i)])),none,none,some (.box true [.val (.slice none 0 0), .val (.slice none 0 0), .val (.slice none 0 0),B false,I 0,I 0, .val (.slice none 0 0)]),some (.box true [I 0]),some (.box true [I a1,I a2,I a3,I a4,I a5,I a6,I a7,B a8,B a9,B a10,I a11,B (C.off 0),B (C.off 1),B (C.off 2),B (C.off 3),B (C.off 4),B (C.off 5),B (C.off 6), .sl 0 C.nr, .sl 1 C.nd, .val (.slice none 0 0), .val (.slice none 0 0), .val (.slice none 0 0),B false,I 0,I 0, .val (.slice none 0 0)]),some (.box true [.ptr 6 0])]⟩
noncomputable def sB_h0 (a1:Int) (a2:Int) (a3:Int) (a4:Int) (a5:Int) (a6:Int) (a7:Int) (a8:Bool) (a9:Bool) (a10:Bool) (a11:Int) (C:Cl) (θ1:Th) (x1:Int):SC:=
 ⟨[⟨31,slo 47 [(4, .ptr 4 0),(5, .ptr 5 0)],[.code (bodyAt Tryz.f31 [1,1,1,1,0,1,0,0,1,1,0,0,1,1,1,0,1]), .inBlock 1, .code (bodyAt Tryz.f31 [1,1,1,1,0,1,0,0,1,1,1]), .inLoop (bodyAt Tryz.f31 [1,1,1,1,0,1,0,0]), .inBlock 0, .code (bodyAt Tryz.f31 [1,1,1,1,1])],⟨none,[{target:= .fn (.func 49) (denL θ1 [.ptr 5 0, .ptr 7 0, .ptr 4 0]).toArray,args:= #[]}],false⟩⟩],[some (.row false 109 C.nr 8 (fun i=>[I ((C.R i).kind),I ((C.R i).mon),I ((C.R i).day),I ((C.R i).k),I ((C.R i).off),I ((C.R i).sh),I ((C.R i).fr),I ((C.R i).to)])),some (.row false 3 C.nd 1 (fun i=>[I (C.D i)])),none,none,some (.box true [.val (.slice none 0 0), .val (.slice none 0 0), .val (.slice none 0 0),B false,I 0,I 0, .val (.slice none 0 0)]),some (.box true [I x1]),some (.box true [I a1,I a2,I a3,I a4,I a5,I a6,I a7,B a8,B a9,B a10,I a11,B (C.off 0),B (C.off 1),B (C.off 2),B (C.off 3),B (C.off 4),B (C.off 5),B (C.off 6), .sl 0 C.nr, .sl 1 C.nd, .sl 10 (dN a1 a2 a3 a4 a5 a6 a7 a8 a9 a10 a11), .val (.slice none 0 0), .val (.slice none 0 0),B false,I 0,I 0, .val (.slice none 0 0)]),some (.box true [.ptr 6 0]),none,none,some (.row true 3 (dN a1 a2 a3 a4 a5 a6 a7 a8 a9 a10 a11) 1 (fun i=>[I (dV a5 a6 a7 a9 a8 a10 i)]))]⟩
noncomputable def sB_h1 (a1:Int) (a2:Int) (a3:Int) (a4:Int) (a5:Int) (a6:Int) (a7:Int) (a8:Bool) (a9:Bool) (a10:Bool) (a11:Int) (C:Cl) (θ1:Th) (x1:Int) (n11_:Nat) (g1111:Nat→Int) (n12_:Nat) (g1121:Nat→Int) (g1122:Nat→Int) (n13_:Nat) (g1131:Nat→Int):SC:=
 ⟨[⟨76,slo 40 [(0, .ptr 6 0),(6, .sl 11 n11_),(11, .sl 10 (dN a1 a2 a3 a4 a5 a6 a7 a8 a9 a10 a11)),(12,I (((dN a1 a2 a3 a4 a5 a6 a7 a8 a9 a10 a11):Nat):Int)),(13,I x1)],[.code (bodyAt Tryz.f76 [1,1,0,1,0,0]), .inLoop (bodyAt Tryz.f76 [1,1,0,1,0,0]), .inBlock 0, .code (bodyAt Tryz.f76 [1,1,1])],{}⟩,⟨51,slo 18 [(4, .ptr 6 0),(5, .ptr 6 0),(10, .sl 10 (dN a1 a2 a3 a4 a5 a6 a7 a8 a9 a10 a11))],[.inRegion (opsAt Tryz.f51 [1,0]) [7,8,9,10,11,12,13,14,15], .code (bodyAt Tryz.f51 [1,1])],{}⟩,⟨31,slo 47 [(4, .ptr 4 0),(5, .ptr 5 0),(33, .sl 9 4),(34,I 4),(35,I 1),(39, .fn (.func 51) [.ptr 6 0] [])],[.inRegion (opsAt Tryz.f31 [1,1,1,1,0,1,0,0,1,1,0,0,1,0]) [1,2], .code (bodyAt Tryz.f31 [1,1,1,1,0,1,0,0,1,1,0,0,1,1]), .inBlock 1, .code (bodyAt Tryz.f31 [1,1,1,1,0,1,0,0,1,1,1]), .inLoop (bodyAt Tryz.f31 [1,1,1,1,0,1,0,0]), .inBlock 0, .code (bodyAt Tryz.f31 [1,1,1,1,1])],⟨none,[{target:= .fn (.func 49) (denL θ1 [.ptr 5 0, .ptr 7 0, .ptr 4 0]).toArray,args:= #[]}],false⟩⟩],[some (.row false 109 C.nr 8 (fun i=>[I ((C.R i).kind),I ((C.R i).mon),I ((C.R i).day),I ((C.R i).k),I ((C.R i).off),I ((C.R i).sh),I ((C.R i).fr),I ((C.R i).to)])),some (.row false 3 C.nd 1 (fun i=>[I (C.D i)])),none,none,some (.box true [.val (.slice none 0 0), .val (.slice none 0 0), .val (.slice none 0 0),B false,I 0,I 0, .val (.slice none 0 0)]),some (.box true [I 0]),some (.box true [I a1,I a2,I a3,I a4,I a5,I a6,I a7,B a8,B a9,B a10,I a11,B (C.off 0),B (C.off 1),B (C.off 2),B (C.off 3),B (C.off 4),B (C.off 5),B (C.off 6), .sl 0 C.nr, .sl 1 C.nd, .sl 10 (dN a1 a2 a3 a4 a5 a6 a7 a8 a9 a10 a11), .val (.slice none 0 0), .sl 12 n12_,B false,I 0,I 0, .sl 13 n13_]),some (.box true [.ptr 6 0]),none,some (.row true 113 4 1 (lrow [[.fn (.func 50) [.ptr 6 0] []],[.fn (.func 51) [.ptr 6 0] []],[.fn (.func 52) [.ptr 6 0] []],[.fn (.func 53) [.ptr 6 0] []]])),some (.row true 3 (dN a1 a2 a3 a4 a5 a6 a7 a8 a9 a10 a11) 1 (fun i=>[I (dV a5 a6 a7 a9 a8 a10 i)])),ro n11_ g1111,some (.row true 121 n12_ 2 (fun i=>[I (g1121 i),I (g1122 i)])),ro n13_ g1131]⟩
noncomputable def sB_h2 (a1:Int) (a2:Int) (a3:Int) (a4:Int) (a5:Int) (a6:Int) (a7:Int) (a8:Bool) (a9:Bool) (a10:Bool) (a11:Int) (C:Cl) (θ1:Th) (x1:Int) (n12_:Nat) (g1121:Nat→Int) (g1122:Nat→Int) (n13_:Nat) (g1131:Nat→Int):SC:=
 ⟨[⟨31,slo 47 [(4, .ptr 4 0),(5, .ptr 5 0)],[.code (bodyAt Tryz.f31 [1,1,1,1,0,1,0,0,1,1,0,0,1,1,1,0,1]), .inBlock 1, .code (bodyAt Tryz.f31 [1,1,1,1,0,1,0,0,1,1,1]), .inLoop (bodyAt Tryz.f31 [1,1,1,1,0,1,0,0]), .inBlock 0, .code (bodyAt Tryz.f31 [1,1,1,1,1])],⟨none,[{target:= .fn (.func 49) (denL θ1 [.ptr 5 0, .ptr 7 0, .ptr 4 0]).toArray,args:= #[]}],false⟩⟩],[some (.row false 109 C.nr 8 (fun i=>[I ((C.R i).kind),I ((C.R i).mon),I ((C.R i).day),I ((C.R i).k),I ((C.R i).off),I ((C.R i).sh),I ((C.R i).fr),I ((C.R i).to)])),some (.row false 3 C.nd 1 (fun i=>[I (C.D i)])),none,none,some (.box true [.val (.slice none 0 0), .val (.slice none 0 0), .val (.slice none 0 0),B false,I 0,I 0, .val (.slice none 0 0)]),some (.box true [I x1]),some (.box true [I a1,I a2,I a3,I a4,I a5,I a6,I a7,B a8,B a9,B a10,I a11,B (C.off 0),B (C.off 1),B (C.off 2),B (C.off 3),B (C.off 4),B (C.off 5),B (C.off 6), .sl 0 C.nr, .sl 1 C.nd, .sl 10 (dN a1 a2 a3 a4 a5 a6 a7 a8 a9 a10 a11), .val (.slice none 0 0), .sl 12 n12_,B false,I 0,I 0, .sl 13 n13_]),some (.box true [.ptr 6 0]),none,none,some (.row true 3 (dN a1 a2 a3 a4 a5 a6 a7 a8 a9 a10 a11) 1 (fun i=>[I (dV a5 a6 a7 a9 a8 a10 i)])),none,some (.row true 121 n12_ 2 (fun i=>[I (g1121 i),I (g1122 i)])),ro n13_ g1131]⟩
noncomputable def sB_h3 (a1:Int) (a2:Int) (a3:Int) (a4:Int) (a5:Int) (a6:Int) (a7:Int) (a8:Bool) (a9:Bool) (a10:Bool) (a11:Int) (C:Cl) (θ1:Th) (x1:Int) (x2:Int) (n11_:Nat) (g1111:Nat→Int) (n12_:Nat) (g1121:Nat→Int) (g1122:Nat→Int) (n15_:Nat) (g1151:Nat→Int) (n16_:Nat) (g1161:Nat→Int):SC:=
 ⟨[⟨76,slo 40 [(0, .ptr 6 0),(6, .sl 15 n15_),(11, .sl 14 (gcN a1 a2 a3 a4 a5 a6 a7 a8 a10 a11)),(12,I (((gcN a1 a2 a3 a4 a5 a6 a7 a8 a10 a11):Nat):Int)),(13,I x1)],[.code (bodyAt Tryz.f76 [1,1,0,1,0,0]), .inLoop (bodyAt Tryz.f76 [1,1,0,1,0,0]), .inBlock 0, .code (bodyAt Tryz.f76 [1,1,1])],{}⟩,⟨52,slo 61 [(50, .ptr 6 0),(51, .ptr 6 0),(52, .sl 14 (gcN a1 a2 a3 a4 a5 a6 a7 a8 a10 a11))],[.inRegion (opsAt Tryz.f52 [1,1,0,1,0,1]) [3,4,5,6,7,8,9,10,11,12], .code (bodyAt Tryz.f52 [1,1,1])],{}⟩,⟨31,slo 47 [(4, .ptr 4 0),(5, .ptr 5 0),(33, .sl 9 4),(34,I 4),(35,I 2),(39, .fn (.func 52) [.ptr 6 0] [])],[.inRegion (opsAt Tryz.f31 [1,1,1,1,0,1,0,0,1,1,0,0,1,0]) [1,2], .code (bodyAt Tryz.f31 [1,1,1,1,0,1,0,0,1,1,0,0,1,1]), .inBlock 1, .code (bodyAt Tryz.f31 [1,1,1,1,0,1,0,0,1,1,1]), .inLoop (bodyAt Tryz.f31 [1,1,1,1,0,1,0,0]), .inBlock 0, .code (bodyAt Tryz.f31 [1,1,1,1,1])],⟨none,[{target:= .fn (.func 49) (denL θ1 [.ptr 5 0, .ptr 7 0, .ptr 4 0]).toArray,args:= #[]}],false⟩⟩],[some (.row false 109 C.nr 8 (fun i=>[I ((C.R i).kind),I ((C.R i).mon),I ((C.R i).day),I ((C.R i).k),I ((C.R i).off),I ((C.R i).sh),I ((C.R i).fr),I ((C.R i).to)])),some (.row false 3 C.nd 1 (fun i=>[I (C.D i)])),none,none,some (.box true [.val (.slice none 0 0), .val (.slice none 0 0), .val (.slice none 0 0),B false,I 0,I 0, .val (.slice none 0 0)]),some (.box true [I 0]),some (.box true [I a1,I a2,I a3,I a4,I a5,I a6,I a7,B a8,B a9,B a10,I a11,B (C.off 0),B (C.off 1),B (C.off 2),B (C.off 3),B (C.off 4),B (C.off 5),B (C.off 6), .sl 0 C.nr, .sl 1 C.nd, .sl 10 (dN a1 a2 a3 a4 a5 a6 a7 a8 a9 a10 a11), .sl 11 n11_, .sl 12 n12_,B a10,I x2,I (frq a7), .sl 16 n16_]),some (.box true [.ptr 6 0]),none,some (.row true 113 4 1 (lrow [[.fn (.func 50) [.ptr 6 0] []],[.fn (.func 51) [.ptr 6 0] []],[.fn (.func 52) [.ptr 6 0] []],[.fn (.func 53) [.ptr 6 0] []]])),some (.row true 3 (dN a1 a2 a3 a4 a5 a6 a7 a8 a9 a10 a11) 1 (fun i=>[I (dV a5 a6 a7 a9 a8 a10 i)])),ro n11_ g1111,some (.row true 121 n12_ 2 (fun i=>[I (g1121 i),I (g1122 i)])),none,some (.row true 3 (gcN a1 a2 a3 a4 a5 a6 a7 a8 a10 a11) 1 (fun i=>[I (gcV a5 a6 a7 a8 a10 i)])),ro n15_ g1151,ro n16_ g1161]⟩
noncomputable def sB_h4 (a1:Int) (a2:Int) (a3:Int) (a4:Int) (a5:Int) (a6:Int) (a7:Int) (a8:Bool) (a9:Bool) (a10:Bool) (a11:Int) (C:Cl) (θ1:Th) (x1:Int) (x2:Int) (n11_:Nat) (g1111:Nat→Int) (n12_:Nat) (g1121:Nat→Int) (g1122:Nat→Int) (n13_:Nat) (g1131:Nat→Int):SC:=
 ⟨[⟨53,slo 62 [(0, .ptr 6 0),(3,I x1)],[.code (bodyAt Tryz.f53 [1,0,1,0,0]), .inLoop (bodyAt Tryz.f53 [1,0,1,0,0]), .inBlock 0, .code (bodyAt Tryz.f53 [1,1])],{}⟩,⟨31,slo 47 [(4, .ptr 4 0),(5, .ptr 5 0),(33, .sl 9 4),(34,I 4),(35,I 3),(39, .fn (.func 53) [.ptr 6 0] [])],[.inRegion (opsAt Tryz.f31 [1,1,1,1,0,1,0,0,1,1,0,0,1,0]) [1,2], .code (bodyAt Tryz.f31 [1,1,1,1,0,1,0,0,1,1,0,0,1,1]), .inBlock 1, .code (bodyAt Tryz.f31 [1,1,1,1,0,1,0,0,1,1,1]), .inLoop (bodyAt Tryz.f31 [1,1,1,1,0,1,0,0]), .inBlock 0, .code (bodyAt Tryz.f31 [1,1,1,1,1])],⟨none,[{target:= .fn (.func 49) (denL θ1 [.ptr 5 0, .ptr 7 0, .ptr 4 0]).toArray,args:= #[]}],false⟩⟩],[some (.row false 109 C.nr 8 (fun i=>[I ((C.R i).kind),I ((C.R i).mon),I ((C.R i).day),I ((C.R i).k),I ((C.R i).off),I ((C.R i).sh),I ((C.R i).fr),I ((C.R i).to)])),some (.row false 3 C.nd 1 (fun i=>[I (C.D i)])),none,none,some (.box true [.val (.slice none 0 0), .val (.slice none 0 0), .val (.slice none 0 0),B false,I 0,I 0, .val (.slice none 0 0)]),some (.box true [I 0]),some (.box true [I a1,I a2,I a3,I a4,I a5,I a6,I a7,B a8,B a9,B a10,I a11,B (C.off 0),B (C.off 1),B (C.off 2),B (C.off 3),B (C.off 4),B (C.off 5),B (C.off 6), .sl 0 C.nr, .sl 1 C.nd, .sl 10 (dN a1 a2 a3 a4 a5 a6 a7 a8 a9 a10 a11), .sl 11 n11_, .sl 12 n12_,B a10,I x2,I (frq a7), .sl 13 n13_]),some (.box true [.ptr 6 0]),none,some (.row true 113 4 1 (lrow [[.fn (.func 50) [.ptr 6 0] []],[.fn (.func 51) [.ptr 6 0] []],[.fn (.func 52) [.ptr 6 0] []],[.fn (.func 53) [.ptr 6 0] []]])),some (.row true 3 (dN a1 a2 a3 a4 a5 a6 a7 a8 a9 a10 a11) 1 (fun i=>[I (dV a5 a6 a7 a9 a8 a10 i)])),ro n11_ g1111,some (.row true 121 n12_ 2 (fun i=>[I (g1121 i),I (g1122 i)])),ro n13_ g1131]⟩
noncomputable def sB_h5 (a1:Int) (a2:Int) (a3:Int) (a4:Int) (a5:Int) (a6:Int) (a7:Int) (a8:Bool) (a9:Bool) (a10:Bool) (a11:Int) (C:Cl) (θ1:Th) (x1:Int) (x2:Int) (n11_:Nat) (g1111:Nat→Int) (n12_:Nat) (g1121:Nat→Int) (g1122:Nat→Int):SC:=
 ⟨[⟨31,slo 47 [(4, .ptr 4 0),(5, .ptr 5 0)],[.code (bodyAt Tryz.f31 [1,1,1,1,0,1,0,0,1,1,0,0,1,1,1,0,1]), .inBlock 1, .code (bodyAt Tryz.f31 [1,1,1,1,0,1,0,0,1,1,1]), .inLoop (bodyAt Tryz.f31 [1,1,1,1,0,1,0,0]), .inBlock 0, .code (bodyAt Tryz.f31 [1,1,1,1,1])],⟨none,[{target:= .fn (.func 49) (denL θ1 [.ptr 5 0, .ptr 7 0, .ptr 4 0]).toArray,args:= #[]}],false⟩⟩],[some (.row false 109 C.nr 8 (fun i=>[I ((C.R i).kind),I ((C.R i).mon),I ((C.R i).day),I ((C.R i).k),I ((C.R i).off),I ((C.R i).sh),I ((C.R i).fr),I ((C.R i).to)])),some (.row false 3 C.nd 1 (fun i=>[I (C.D i)])),none,none,some (.box true [.val (.slice none 0 0), .val (.slice none 0 0), .val (.slice none 0 0),B false,I 0,I 0, .val (.slice none 0 0)]),some (.box true [I x1]),some (.box true [I a1,I a2,I a3,I a4,I a5,I a6,I a7,B a8,B a9,B a10,I a11,B (C.off 0),B (C.off 1),B (C.off 2),B (C.off 3),B (C.off 4),B (C.off 5),B (C.off 6), .sl 0 C.nr, .sl 1 C.nd, .sl 10 (dN a1 a2 a3 a4 a5 a6 a7 a8 a9 a10 a11), .sl 11 n11_, .sl 12 n12_,B a10,I x2,I (frq a7), .val (.slice none 0 0)]),some (.box true [.ptr 6 0]),none,none,some (.row true 3 (dN a1 a2 a3 a4 a5 a6 a7 a8 a9 a10 a11) 1 (fun i=>[I (dV a5 a6 a7 a9 a8 a10 i)])),ro n11_ g1111,some (.row true 121 n12_ 2 (fun i=>[I (g1121 i),I (g1122 i)]))]⟩
noncomputable def sB_h6 (a1:Int) (a2:Int) (a3:Int) (a4:Int) (a5:Int) (a6:Int) (a7:Int) (a8:Bool) (a9:Bool) (a10:Bool) (a11:Int) (C:Cl) (θ1:Th) (x1:Int) (x2:Int) (n11_:Nat) (g1111:Nat→Int) (n12_:Nat) (g1121:Nat→Int) (g1122:Nat→Int) (n13_:Nat) (g1131:Nat→Int):SC:=
 ⟨[⟨31,slo 47 [(4, .ptr 4 0),(5, .ptr 5 0)],[.code (bodyAt Tryz.f31 [1,1,1,1,0,1,0,0,1,1,0,0,1,1,1,0,1]), .inBlock 1, .code (bodyAt Tryz.f31 [1,1,1,1,0,1,0,0,1,1,1]), .inLoop (bodyAt Tryz.f31 [1,1,1,1,0,1,0,0]), .inBlock 0, .code (bodyAt Tryz.f31 [1,1,1,1,1])],⟨none,[{target:= .fn (.func 49) (denL θ1 [.ptr 5 0, .ptr 7 0, .ptr 4 0]).toArray,args:= #[]}],false⟩⟩],[some (.row false 109 C.nr 8 (fun i=>[I ((C.R i).kind),I ((C.R i).mon),I ((C.R i).day),I ((C.R i).k),I ((C.R i).off),I ((C.R i).sh),I ((C.R i).fr),I ((C.R i).to)])),some (.row false 3 C.nd 1 (fun i=>[I (C.D i)])),none,none,some (.box true [.val (.slice none 0 0), .val (.slice none 0 0), .val (.slice none 0 0),B false,I 0,I 0, .val (.slice none 0 0)]),some (.box true [I x1]),some (.box true [I a1,I a2,I a3,I a4,I a5,I a6,I a7,B a8,B a9,B a10,I a11,B (C.off 0),B (C.off 1),B (C.off 2),B (C.off 3),B (C.off 4),B (C.off 5),B (C.off 6), .sl 0 C.nr, .sl 1 C.nd, .sl 10 (dN a1 a2 a3 a4 a5 a6 a7 a8 a9 a10 a11), .sl 11 n11_, .sl 12 n12_,B a10,I x2,I (frq a7), .sl 13 n13_]),some (.box true [.ptr 6 0]),none,none,some (.row true 3 (dN a1 a2 a3 a4 a5 a6 a7 a8 a9 a10 a11) 1 (fun i=>[I (dV a5 a6 a7 a9 a8 a10 i)])),ro n11_ g1111,some (.row true 121 n12_ 2 (fun i=>[I (g1121 i),I (g1122 i)])),ro n13_ g1131]⟩
noncomputable def sB_h7 (a1:Int) (a2:Int) (a3:Int) (a4:Int) (a5:Int) (a6:Int) (a7:Int) (a8:Bool) (a9:Bool) (a10:Bool) (a11:Int) (C:Cl) (θ1:Th) (x1:Int) (n11_:Nat) (g1111:Nat→Int) (n12_:Nat) (g1121:Nat→Int) (g1122:Nat→Int) (n13_:Nat) (g1131:Nat→Int):SC:=
 ⟨[⟨31,slo 47 [(4, .ptr 4 0),(5, .ptr 5 0)],[.code (bodyAt Tryz.f31 [1,1,1,1,1,1])],⟨none,[{target:= .fn (.func 49) (denL θ1 [.ptr 5 0, .ptr 7 0, .ptr 4 0]).toArray,args:= #[]}],false⟩⟩],[some (.row false 109 C.nr 8 (fun i=>[I ((C.R i).kind),I ((C.R i).mon),I ((C.R i).day),I ((C.R i).k),I ((C.R i).off),I ((C.R i).sh),I ((C.R i).fr),I ((C.R i).to)])),some (.row false 3 C.nd 1 (fun i=>[I (C.D i)])),none,none,some (.box true [.val (.slice none 0 0), .val (.slice none 0 0), .val (.slice none 0 0),B false,I 0,I 0, .val (.slice none 0 0)]),some (.box true [I 0]),some (.box true [I a1,I a2,I a3,I a4,I a5,I a6,I a7,B a8,B a9,B a10,I a11,B (C.off 0),B (C.off 1),B (C.off 2),B (C.off 3),B (C.off 4),B (C.off 5),B (C.off 6), .sl 0 C.nr, .sl 1 C.nd, .sl 10 (dN a1 a2 a3 a4 a5 a6 a7 a8 a9 a10 a11), .sl 11 n11_, .sl 12 n12_,B a10,I x1,I (frq a7), .sl 13 n13_]),some (.box true [.ptr 6 0]),none,none,some (.row true 3 (dN a1 a2 a3 a4 a5 a6 a7 a8 a9 a10 a11) 1 (fun i=>[I (dV a5 a6 a7 a9 a8 a10 i)])),ro n11_ g1111,some (.row true 121 n12_ 2 (fun i=>[I (g1121 i),I (g1122 i)])),ro n13_ g1131]⟩
theorem sB_w0 {X:Cx} {a1 a2 a3 a4 a5 a6 a7:Int} {a8 a9 a10:Bool} {a11:Int} {C:Cl} {θ1:Th} (hX:InX X Tryz.prog GL 8) (H:(chk a1 a2 a3 a4 a5 a6 a7 a11=0→a6-a5≤6200*a7)∧((chk a1 a2 a3 a4 a5 a6 a7 a11)≠0→Ok X (sB_h0 a1 a2 a3 a4 a5 a6 a7 a8 a9 a10 a11 C θ1 (chk a1 a2 a3 a4 a5 a6 a7 a11)))∧((chk a1 a2 a3 a4 a5 a6 a7 a11)=0→Ok X (sB_h1 a1 a2 a3 a4 a5 a6 a7 a8 a9 a10 a11 C θ1 0 0 (fun _=>default) 0 (fun _=>default) (fun _=>default) 0 (fun _=>default)))):
  Ok X (sB_s a1 a2 a3 a4 a5 a6 a7 a8 a9 a10 a11 C θ1):=by
 obtain⟨h0,L1,K1⟩:=H
 refine hX.go [q_ (show ∀ k,k<4→(lrow [[.fn (.func 50) [.ptr 6 0] []],[.fn (.func 51) [.ptr 6 0] []],[.fn (.func 52) [.ptr 6 0] []],[.fn (.func 53) [.ptr 6 0] []]]) k=[[.fn (.func 50) [.ptr 6 0] []],[.fn (.func 51) [.ptr 6 0] []],[.fn (.func 52) [.ptr 6 0] []],[.fn (.func 53) [.ptr 6 0] []]].getD k []from by intro k hk;match k,hk with|0,_=>rfl|1,_=>rfl|2,_=>rfl|3,_=>rfl|k+4,hk=>omega),h_ [.row (lrow [[.fn (.func 50) [.ptr 6 0] []],[.fn (.func 51) [.ptr 6 0] []],[.fn (.func 52) [.ptr 6 0] []],[.fn (.func 53) [.ptr 6 0] []]])],t_ rt,q_ (show(0:Int)≤0∧0<((4:Nat):Int)from by decide),q_ (re 4),q_ (show(0:Int)≤0∧0<((4:Nat):Int)from by decide),i_,c_ [] (show S 75 [.agg [I a1,I a2,I a3,I a4,I a5,I a6,I a7,B a8,B a9,B a10,I a11]] [] (.tup [.sl 0 (dN a1 a2 a3 a4 a5 a6 a7 a8 a9 a10 a11),I (chk a1 a2 a3 a4 a5 a6 a7 a11)]) [some (.row true 3 (dN a1 a2 a3 a4 a5 a6 a7 a8 a9 a10 a11) 1 (fun i=>[I (dV a5 a6 a7 a9 a8 a10 i)]))]from dOf _ _ _ _ _ _ _ _ _ _ _ h0)] ?_
 by_cases h1:(chk a1 a2 a3 a4 a5 a6 a7 a11)=0
 ·have k:=K1 h1
  exact hX.hr 59 [f_ (bne_eq_false_iff_eq.2 h1),q_ (show Ir 1 from by decide),t_ rt,q_ (show(0:Int)≤1∧1<((4:Nat):Int)from by decide),q_ (re 4),q_ (show(0:Int)≤1∧1<((4:Nat):Int)from by decide),i_,i_] [.old 0, .old 1, .old 2, .old 3, .old 4, .old 5, .old 6, .old 7, .old 1008, .old 9, .old 10, .nil 1, .nil 2, .nil 1] 9 113 [[.fn (.func 50) [.ptr 6 0] []],[.fn (.func 51) [.ptr 6 0] []],[.fn (.func 52) [.ptr 6 0] []],[.fn (.func 53) [.ptr 6 0] []]] k
 ·have k:=L1 h1
  exact hX.h 8 [t_ (bne_iff_ne.2 h1)] [.old 0, .old 1, .old 2, .old 3, .old 4, .old 5, .old 6, .old 7, .old 1008, .old 1009, .old 10] k
theorem sB_w1 {X:Cx} {a1 a2 a3 a4 a5 a6 a7:Int} {a8 a9 a10:Bool} {a11:Int} {C:Cl} {θ1:Th} {x1:Int} {n11_:Nat} {g1111:Nat→Int} {n12_:Nat} {g1121 g1122:Nat→Int} {n13_:Nat} {g1131:Nat→Int} (hX:InX X Tryz.prog GL 8) (H:(x1<(((dN a1 a2 a3 a4 a5 a6 a7 a8 a9 a10 a11):Nat):Int)→((0:Int)≤x1∧x1<(((dN a1 a2 a3 a4 a5 a6 a7 a8 a9 a10 a11):Nat):Int))∧CalOk C∧NDay (dV a5 a6 a7 a9 a8 a10 x1.toNat)∧(((toV C (dV a5 a6 a7 a9 a8 a10 x1.toNat) a11).2)≠0→Ok X (sB_h2 a1 a2 a3 a4 a5 a6 a7 a8 a9 a10 a11 C θ1 ((toV C (dV a5 a6 a7 a9 a8 a10 x1.toNat) a11).2) n12_ g1121 g1122 n13_ g1131))∧(((toV C (dV a5 a6 a7 a9 a8 a10 x1.toNat) a11).2)=0→ ∃ q5002:Nat→Int,(∀ k,k<(n11_+1)→q5002 k=if k<n11_ then(g1111 k)else((toV C (dV a5 a6 a7 a9 a8 a10 x1.toNat) a11).1))∧(n11_+1)*8≤140737488355328∧Ir (x1+1)∧Ok X (sB_h1 a1 a2 a3 a4 a5 a6 a7 a8 a9 a10 a11 C θ1 (x1+1) (n11_+1) q5002 n12_ g1121 g1122 n13_ g1131)))∧(¬x1<(((dN a1 a2 a3 a4 a5 a6 a7 a8 a9 a10 a11):Nat):Int)→Ir (((n11_:Nat):Int)-1)∧((0:Int)≤(((n11_:Nat):Int)-1)∧(((n11_:Nat):Int)-1)<((n11_:Nat):Int))∧(a4=6→(chk a1 a2 a3 a4 a5 a6 a7 a11=0→a6-a5≤6200*a7)∧Ok X (sB_h3 a1 a2 a3 a4 a5 a6 a7 a8 a9 a10 a11 C θ1 0 (g1111 ((((n11_:Nat):Int)-1).toNat)) n11_ g1111 n12_ g1121 g1122 0 (fun _=>default) 0 (fun _=>default)))∧(a4≠6→Ok X (sB_h4 a1 a2 a3 a4 a5 a6 a7 a8 a9 a10 a11 C θ1 1 (g1111 ((((n11_:Nat):Int)-1).toNat)) n11_ g1111 n12_ g1121 g1122 0 (fun _=>default))))):
  Ok X (sB_h1 a1 a2 a3 a4 a5 a6 a7 a8 a9 a10 a11 C θ1 x1 n11_ g1111 n12_ g1121 g1122 n13_ g1131):=by
 obtain⟨L0,K0⟩:=H
 by_cases h0:x1<(((dN a1 a2 a3 a4 a5 a6 a7 a8 a9 a10 a11):Nat):Int)
 ·obtain⟨h1,h2,h3,L4,K4⟩:=L0 h0
  refine hX.go [t_ (dt h0),q_ h1,q_ (show(dN a1 a2 a3 a4 a5 a6 a7 a8 a9 a10 a11)=(dN a1 a2 a3 a4 a5 a6 a7 a8 a9 a10 a11)from rfl),q_ h1,d_ 15,c_ [0,1] (show S 106 [.agg [B (C.off 0),B (C.off 1),B (C.off 2),B (C.off 3),B (C.off 4),B (C.off 5),B (C.off 6), .sl 0 C.nr, .sl 1 C.nd],I (dV a5 a6 a7 a9 a8 a10 x1.toNat),I a11] (calH C) (.tup [I ((toV C (dV a5 a6 a7 a9 a8 a10 x1.toNat) a11).1),I ((toV C (dV a5 a6 a7 a9 a8 a10 x1.toNat) a11).2)]) []from pTo h2 h3)] ?_
  by_cases h4:((toV C (dV a5 a6 a7 a9 a8 a10 x1.toNat) a11).2)=0
  ·obtain⟨q5002,h5,h6,h7,k⟩:=K4 h4
   exact hX.hr 15 [f_ (bne_eq_false_iff_eq.2 h4),q_ (show ∀ k,k<1→(fun i=>[I ((toV C (dV a5 a6 a7 a9 a8 a10 x1.toNat) a11).1)]) k=[[I ((toV C (dV a5 a6 a7 a9 a8 a10 x1.toNat) a11).1)]].getD k []from by intro k hk;match k,hk with|0,_=>rfl|k+1,hk=>omega),q_ (re 1),q_ (re n11_),q_ h6,q_ (show ∀ k,k<n11_+1→(fun i=>[I (q5002 i)]) k=if k<n11_ then(fun i=>[I (g1111 i)]) k else(fun i=>[I ((toV C (dV a5 a6 a7 a9 a8 a10 x1.toNat) a11).1)]) (k-n11_)from fun k hk=>by
   have e0:=h5 k hk
   by_cases c:k<n11_
   ·rw[if_pos c]at e0⊢;simp only[e0]
   ·rw[if_neg c]at e0⊢;simp only[e0]),q_ h7,h_ [.row (fun i=>[I ((toV C (dV a5 a6 a7 a9 a8 a10 x1.toNat) a11).1)]), .row (fun i=>[I (q5002 i)])]] [.old 0, .old 1, .old 2, .old 3, .old 4, .old 5, .old 6, .old 7, .old 1008, .old 9, .old 10, .old 15, .old 12, .old 13] 9 113 [[.fn (.func 50) [.ptr 6 0] []],[.fn (.func 51) [.ptr 6 0] []],[.fn (.func 52) [.ptr 6 0] []],[.fn (.func 53) [.ptr 6 0] []]] k
  ·have k:=L4 h4
   exact hX.h 38 [t_ (bne_iff_ne.2 h4),t_ (bne_iff_ne.2 h4)] [.old 0, .old 1, .old 2, .old 3, .old 4, .old 5, .old 6, .old 7, .old 1008, .old 1009, .old 10, .old 1011, .old 12, .old 13] k
 ·obtain⟨h1,h2,L3,K3⟩:=K0 h0
  refine hX.go [f_ (df h0),f_ rf,q_ (show Ir 2 from by decide),t_ rt,q_ (show(0:Int)≤2∧2<((4:Nat):Int)from by decide),q_ (re 4),q_ (show(0:Int)≤2∧2<((4:Nat):Int)from by decide),q_ h1,q_ h2,q_ (re n11_),q_ h2,i_,d_ 27,c_ [] (tFreq a7)] ?_
  by_cases h3:a4=6
  ·obtain⟨h4,k⟩:=L3 h3
   exact hX.hr 37 [t_ (beq_iff_eq.2 h3),c_ [] (show S 78 [.agg [I a1,I a2,I a3,I a4,I a5,I a6,I a7,B a8,B a9,B a10,I a11]] [] (.tup [.sl 0 (gcN a1 a2 a3 a4 a5 a6 a7 a8 a10 a11),I (chk a1 a2 a3 a4 a5 a6 a7 a11)]) [some (.row true 3 (gcN a1 a2 a3 a4 a5 a6 a7 a8 a10 a11) 1 (fun i=>[I (gcV a5 a6 a7 a8 a10 i)]))]from dGrid _ _ _ _ _ _ _ _ _ _ _ h4),i_] [.old 0, .old 1, .old 2, .old 3, .old 4, .old 5, .old 6, .old 7, .old 1008, .old 9, .old 10, .old 11, .old 12, .old 1013, .old 14, .nil 1, .nil 1] 9 113 [[.fn (.func 50) [.ptr 6 0] []],[.fn (.func 51) [.ptr 6 0] []],[.fn (.func 52) [.ptr 6 0] []],[.fn (.func 53) [.ptr 6 0] []]] k
  ·have k:=K3 h3
   exact hX.hr 53 [f_ (beq_eq_false_iff_ne.2 h3),f_ rf,q_ (show Ir 3 from by decide),t_ rt,q_ (show(0:Int)≤3∧3<((4:Nat):Int)from by decide),q_ (re 4),q_ (show(0:Int)≤3∧3<((4:Nat):Int)from by decide),i_] [.old 0, .old 1, .old 2, .old 3, .old 4, .old 5, .old 6, .old 7, .old 1008, .old 9, .old 10, .old 11, .old 12, .nil 1] 9 113 [[.fn (.func 50) [.ptr 6 0] []],[.fn (.func 51) [.ptr 6 0] []],[.fn (.func 52) [.ptr 6 0] []],[.fn (.func 53) [.ptr 6 0] []]] k
theorem sB_w2 {X:Cx} {a1 a2 a3 a4 a5 a6 a7:Int} {a8 a9 a10:Bool} {a11:Int} {C:Cl} {θ1:Th} {x1 x2:Int} {n11_:Nat} {g1111:Nat→Int} {n12_:Nat} {g1121 g1122:Nat→Int} {n15_:Nat} {g1151:Nat→Int} {n16_:Nat} {g1161:Nat→Int} (hX:InX X Tryz.prog GL 8) (H:(x1<(((gcN a1 a2 a3 a4 a5 a6 a7 a8 a10 a11):Nat):Int)→((0:Int)≤x1∧x1<(((gcN a1 a2 a3 a4 a5 a6 a7 a8 a10 a11):Nat):Int))∧CalOk C∧NDay (gcV a5 a6 a7 a8 a10 x1.toNat)∧(((toV C (gcV a5 a6 a7 a8 a10 x1.toNat) a11).2)≠0→Ok X (sB_h5 a1 a2 a3 a4 a5 a6 a7 a8 a9 a10 a11 C θ1 ((toV C (gcV a5 a6 a7 a8 a10 x1.toNat) a11).2) x2 n11_ g1111 n12_ g1121 g1122))∧(((toV C (gcV a5 a6 a7 a8 a10 x1.toNat) a11).2)=0→ ∃ q5003:Nat→Int,(∀ k,k<(n15_+1)→q5003 k=if k<n15_ then(g1151 k)else((toV C (gcV a5 a6 a7 a8 a10 x1.toNat) a11).1))∧(n15_+1)*8≤140737488355328∧Ir (x1+1)∧Ok X (sB_h3 a1 a2 a3 a4 a5 a6 a7 a8 a9 a10 a11 C θ1 (x1+1) x2 n11_ g1111 n12_ g1121 g1122 (n15_+1) q5003 n16_ g1161)))∧(¬x1<(((gcN a1 a2 a3 a4 a5 a6 a7 a8 a10 a11):Nat):Int)→Ok X (sB_h4 a1 a2 a3 a4 a5 a6 a7 a8 a9 a10 a11 C θ1 1 x2 n11_ g1111 n12_ g1121 g1122 n15_ g1151))):
  Ok X (sB_h3 a1 a2 a3 a4 a5 a6 a7 a8 a9 a10 a11 C θ1 x1 x2 n11_ g1111 n12_ g1121 g1122 n15_ g1151 n16_ g1161):=by
 obtain⟨L0,K0⟩:=H
 by_cases h0:x1<(((gcN a1 a2 a3 a4 a5 a6 a7 a8 a10 a11):Nat):Int)
 ·obtain⟨h1,h2,h3,L4,K4⟩:=L0 h0
  refine hX.go [t_ (dt h0),q_ h1,q_ (show(gcN a1 a2 a3 a4 a5 a6 a7 a8 a10 a11)=(gcN a1 a2 a3 a4 a5 a6 a7 a8 a10 a11)from rfl),q_ h1,d_ 15,c_ [0,1] (show S 106 [.agg [B (C.off 0),B (C.off 1),B (C.off 2),B (C.off 3),B (C.off 4),B (C.off 5),B (C.off 6), .sl 0 C.nr, .sl 1 C.nd],I (gcV a5 a6 a7 a8 a10 x1.toNat),I a11] (calH C) (.tup [I ((toV C (gcV a5 a6 a7 a8 a10 x1.toNat) a11).1),I ((toV C (gcV a5 a6 a7 a8 a10 x1.toNat) a11).2)]) []from pTo h2 h3)] ?_
  by_cases h4:((toV C (gcV a5 a6 a7 a8 a10 x1.toNat) a11).2)=0
  ·obtain⟨q5003,h5,h6,h7,k⟩:=K4 h4
   exact hX.hr 15 [f_ (bne_eq_false_iff_eq.2 h4),q_ (show ∀ k,k<1→(fun i=>[I ((toV C (gcV a5 a6 a7 a8 a10 x1.toNat) a11).1)]) k=[[I ((toV C (gcV a5 a6 a7 a8 a10 x1.toNat) a11).1)]].getD k []from by intro k hk;match k,hk with|0,_=>rfl|k+1,hk=>omega),q_ (re 1),q_ (re n15_),q_ h6,q_ (show ∀ k,k<n15_+1→(fun i=>[I (q5003 i)]) k=if k<n15_ then(fun i=>[I (g1151 i)]) k else(fun i=>[I ((toV C (gcV a5 a6 a7 a8 a10 x1.toNat) a11).1)]) (k-n15_)from fun k hk=>by
   have e0:=h5 k hk
   by_cases c:k<n15_
   ·rw[if_pos c]at e0⊢;simp only[e0]
   ·rw[if_neg c]at e0⊢;simp only[e0]),q_ h7,h_ [.row (fun i=>[I ((toV C (gcV a5 a6 a7 a8 a10 x1.toNat) a11).1)]), .row (fun i=>[I (q5003 i)])]] [.old 0, .old 1, .old 2, .old 3, .old 4, .old 5, .old 6, .old 7, .old 1008, .old 9, .old 10, .old 11, .old 12, .old 1013, .old 14, .old 18, .old 16] 9 113 [[.fn (.func 50) [.ptr 6 0] []],[.fn (.func 51) [.ptr 6 0] []],[.fn (.func 52) [.ptr 6 0] []],[.fn (.func 53) [.ptr 6 0] []]] k
  ·have k:=L4 h4
   exact hX.h 39 [t_ (bne_iff_ne.2 h4),t_ (bne_iff_ne.2 h4)] [.old 0, .old 1, .old 2, .old 3, .old 4, .old 5, .old 6, .old 7, .old 1008, .old 1009, .old 10, .old 11, .old 12] k
 ·have k:=K0 h0
  exact hX.hr 75 [f_ (df h0),f_ rf,q_ (show Ir 3 from by decide),t_ rt,q_ (show(0:Int)≤3∧3<((4:Nat):Int)from by decide),q_ (re 4),q_ (show(0:Int)≤3∧3<((4:Nat):Int)from by decide),i_] [.old 0, .old 1, .old 2, .old 3, .old 4, .old 5, .old 6, .old 7, .old 1008, .old 9, .old 10, .old 11, .old 12, .old 15] 9 113 [[.fn (.func 50) [.ptr 6 0] []],[.fn (.func 51) [.ptr 6 0] []],[.fn (.func 52) [.ptr 6 0] []],[.fn (.func 53) [.ptr 6 0] []]] k
theorem sB_w3 {X:Cx} {a1 a2 a3 a4 a5 a6 a7:Int} {a8 a9 a10:Bool} {a11:Int} {C:Cl} {θ1:Th} {x1 x2:Int} {n11_:Nat} {g1111:Nat→Int} {n12_:Nat} {g1121 g1122:Nat→Int} {n13_:Nat} {g1131:Nat→Int} (hX:InX X Tryz.prog GL 8) (H:(x1<((n11_:Nat):Int)→Ir (x1-1)∧((0:Int)≤(x1-1)∧(x1-1)<((n11_:Nat):Int))∧((0:Int)≤x1∧x1<((n11_:Nat):Int))∧(((partC a4 (g1111 ((x1-1).toNat)) (g1111 x1.toNat) a10 x2 (frq a7) n13_ g1131).2.2)≠0→Ok X (sB_h6 a1 a2 a3 a4 a5 a6 a7 a8 a9 a10 a11 C θ1 ((partC a4 (g1111 ((x1-1).toNat)) (g1111 x1.toNat) a10 x2 (frq a7) n13_ g1131).2.2) x2 n11_ g1111 n12_ g1121 g1122 n13_ g1131))∧(((partC a4 (g1111 ((x1-1).toNat)) (g1111 x1.toNat) a10 x2 (frq a7) n13_ g1131).2.2)=0→ ∃ q5003:Nat→Int,(∀ k,k<(n12_+1)→q5003 k=if k<n12_ then(g1121 k)else((partC a4 (g1111 ((x1-1).toNat)) (g1111 x1.toNat) a10 x2 (frq a7) n13_ g1131).1))∧ ∃ q5004:Nat→Int,(∀ k,k<(n12_+1)→q5004 k=if k<n12_ then(g1122 k)else((partC a4 (g1111 ((x1-1).toNat)) (g1111 x1.toNat) a10 x2 (frq a7) n13_ g1131).2.1))∧(n12_+1)*16≤140737488355328∧Ir (x1+1)∧Ok X (sB_h4 a1 a2 a3 a4 a5 a6 a7 a8 a9 a10 a11 C θ1 (x1+1) x2 n11_ g1111 (n12_+1) q5003 q5004 n13_ g1131)))∧(¬x1<((n11_:Nat):Int)→Ok X (sB_h7 a1 a2 a3 a4 a5 a6 a7 a8 a9 a10 a11 C θ1 x2 n11_ g1111 n12_ g1121 g1122 n13_ g1131))):
  Ok X (sB_h4 a1 a2 a3 a4 a5 a6 a7 a8 a9 a10 a11 C θ1 x1 x2 n11_ g1111 n12_ g1121 g1122 n13_ g1131):=by
 obtain⟨L0,K0⟩:=H
 by_cases h0:x1<((n11_:Nat):Int)
 ·obtain⟨h1,h2,h3,L4,K4⟩:=L0 h0
  refine hX.go [t_ (dt h0),q_ h1,q_ h2,q_ (re n11_),q_ h2,q_ h3,q_ (re n11_),q_ h3,h_ [.draw 32 [30] 1],c_ [13] (show S 79 [I a4,I (g1111 ((x1-1).toNat)),I (g1111 x1.toNat), .agg [B a10,I x2,I (frq a7), .sl 0 n13_]] [ri n13_ g1131] (RT (partC a4 (g1111 ((x1-1).toNat)) (g1111 x1.toNat) a10 x2 (frq a7) n13_ g1131)) []from cPart _ _ _),q_ (show(I ((partC a4 (g1111 ((x1-1).toNat)) (g1111 x1.toNat) a10 x2 (frq a7) n13_ g1131).2.2):SV)=I ((partC a4 (g1111 ((x1-1).toNat)) (g1111 x1.toNat) a10 x2 (frq a7) n13_ g1131).2.2)from rfl),q_ (show(I ((partC a4 (g1111 ((x1-1).toNat)) (g1111 x1.toNat) a10 x2 (frq a7) n13_ g1131).2.2):SV)=I ((partC a4 (g1111 ((x1-1).toNat)) (g1111 x1.toNat) a10 x2 (frq a7) n13_ g1131).2.2)from rfl)] ?_
  by_cases h4:((partC a4 (g1111 ((x1-1).toNat)) (g1111 x1.toNat) a10 x2 (frq a7) n13_ g1131).2.2)=0
  ·obtain⟨q5003,h5,q5004,h6,h7,h8,k⟩:=K4 h4
   exact hX.hr 15 [f_ (bne_eq_false_iff_eq.2 h4),q_ (show ∀ k,k<1→(fun i=>[I ((partC a4 (g1111 ((x1-1).toNat)) (g1111 x1.toNat) a10 x2 (frq a7) n13_ g1131).1),I ((partC a4 (g1111 ((x1-1).toNat)) (g1111 x1.toNat) a10 x2 (frq a7) n13_ g1131).2.1)]) k=[[I ((partC a4 (g1111 ((x1-1).toNat)) (g1111 x1.toNat) a10 x2 (frq a7) n13_ g1131).1),I ((partC a4 (g1111 ((x1-1).toNat)) (g1111 x1.toNat) a10 x2 (frq a7) n13_ g1131).2.1)]].getD k []from by intro k hk;match k,hk with|0,_=>rfl|k+1,hk=>omega),q_ (show(.ptr 6 0:SV)= .ptr 6 0 from rfl),q_ (re 1),q_ (re n12_),q_ h7,q_ (show ∀ k,k<n12_+1→(fun i=>[I (q5003 i),I (q5004 i)]) k=if k<n12_ then(fun i=>[I (g1121 i),I (g1122 i)]) k else(fun i=>[I ((partC a4 (g1111 ((x1-1).toNat)) (g1111 x1.toNat) a10 x2 (frq a7) n13_ g1131).1),I ((partC a4 (g1111 ((x1-1).toNat)) (g1111 x1.toNat) a10 x2 (frq a7) n13_ g1131).2.1)]) (k-n12_)from fun k hk=>by
   have e0:=h5 k hk
   have e1:=h6 k hk
   by_cases c:k<n12_
   ·rw[if_pos c]at e0 e1⊢;simp only[e0,e1]
   ·rw[if_neg c]at e0 e1⊢;simp only[e0,e1]),q_ (show(.ptr 6 0:SV)= .ptr 6 0 from rfl),q_ h8,h_ [.draw 8 [0] 1, .row (fun i=>[I ((partC a4 (g1111 ((x1-1).toNat)) (g1111 x1.toNat) a10 x2 (frq a7) n13_ g1131).1),I ((partC a4 (g1111 ((x1-1).toNat)) (g1111 x1.toNat) a10 x2 (frq a7) n13_ g1131).2.1)]), .row (fun i=>[I (q5003 i),I (q5004 i)])]] [.old 0, .old 1, .old 2, .old 3, .old 4, .old 5, .old 6, .old 7, .old 1008, .old 9, .old 10, .old 11, .old 16, .old 13] 9 113 [[.fn (.func 50) [.ptr 6 0] []],[.fn (.func 51) [.ptr 6 0] []],[.fn (.func 52) [.ptr 6 0] []],[.fn (.func 53) [.ptr 6 0] []]] k
  ·have k:=L4 h4
   exact hX.h 22 [t_ (bne_iff_ne.2 h4),t_ (bne_iff_ne.2 h4)] [.old 0, .old 1, .old 2, .old 3, .old 4, .old 5, .old 6, .old 7, .old 1008, .old 1009, .old 10, .old 11, .old 12, .old 13] k
 ·have k:=K0 h0
  exact hX.h 47 [f_ (df h0),f_ rf,q_ (show Ir 4 from by decide),f_ rf] [.old 0, .old 1, .old 2, .old 3, .old 4, .old 5, .old 6, .old 7, .old 1008, .old 1009, .old 10, .old 11, .old 12, .old 13] k
noncomputable def sC0_s (a1:Int) (a2:Int) (a3:Int) (a4:Int) (a5:Int) (a6:Int) (a7:Int) (a8:Bool) (a9:Bool) (a10:Bool) (a11:Int) (C:Cl) (θ1:Th) (x1:Int):SC:=
 ⟨[⟨49,[some (.ptr 5 0),some (.ptr 7 0),some (.ptr 4 0),some (.tup []),some (.tup []),some (.tup []),some (.tup []),some (.tup []),some (.tup [])],[.code (bodyAt Tryz.f49 [])],⟨none,[],true⟩⟩],[some (.row false 109 C.nr 8 (fun i=>[I ((C.R i).kind),I ((C.R i).mon),I ((C.R i).day),I ((C.R i).k),I ((C.R i).off),I ((C.R i).sh),I ((C.R i).fr),I ((C.R i).to)])),some (.row false 3 C.nd 1 (fun i=>[I (C.D i)])),none,none,some (.box true [.val (.slice none 0 0), .val (.slice none 0 0), .val (.slice none 0 0),B false,I 0,I 0, .val (.slice none 0 0)]),some (.box true [I x1]),some (.box true [I a1,I a2,I a3,I a4,I a5,I a6,I a7,B a8,B a9,B a10,I a11,B (C.off 0),B (C.off 1),B (C.off 2),B (C.off 3),B (C.off 4),B (C.off 5),B (C.off 6), .sl 0 C.nr, .sl 1 C.nd, .sl 10 (dN a1 a2 a3 a4 a5 a6 a7 a8 a9 a10 a11), .val (.slice none 0 0), .val (.slice none 0 0),B false,I 0,I 0, .val (.slice none 0 0)]),some (.box true [.ptr 6 0]),none,none,some (.row true 3 (dN a1 a2 a3 a4 a5 a6 a7 a8 a9 a10 a11) 1 (fun i=>[I (dV a5 a6 a7 a9 a8 a10 i)]))]⟩
noncomputable def sC0_h0 (a1:Int) (a2:Int) (a3:Int) (a4:Int) (a5:Int) (a6:Int) (a7:Int) (a8:Bool) (a9:Bool) (a10:Bool) (a11:Int) (C:Cl) (x1:Int):SC:=
 ⟨[⟨49,[none,none,none,none,none,none,none,none,none],[],⟨none,[],true⟩⟩],[some (.row false 109 C.nr 8 (fun i=>[I ((C.R i).kind),I ((C.R i).mon),I ((C.R i).day),I ((C.R i).k),I ((C.R i).off),I ((C.R i).sh),I ((C.R i).fr),I ((C.R i).to)])),some (.row false 3 C.nd 1 (fun i=>[I (C.D i)])),none,none,some (.box true [.sl 10 (dN a1 a2 a3 a4 a5 a6 a7 a8 a9 a10 a11), .val (.slice none 0 0), .val (.slice none 0 0),B false,I 0,I 0, .val (.slice none 0 0)]),some (.box true [I x1]),some (.box true [I a1,I a2,I a3,I a4,I a5,I a6,I a7,B a8,B a9,B a10,I a11,B (C.off 0),B (C.off 1),B (C.off 2),B (C.off 3),B (C.off 4),B (C.off 5),B (C.off 6), .sl 0 C.nr, .sl 1 C.nd, .sl 10 (dN a1 a2 a3 a4 a5 a6 a7 a8 a9 a10 a11), .val (.slice none 0 0), .val (.slice none 0 0),B false,I 0,I 0, .val (.slice none 0 0)]),some (.box true [.ptr 6 0]),none,none,some (.row true 3 (dN a1 a2 a3 a4 a5 a6 a7 a8 a9 a10 a11) 1 (fun i=>[I (dV a5 a6 a7 a9 a8 a10 i)]))]⟩
noncomputable def sC0_h1 (a1:Int) (a2:Int) (a3:Int) (a4:Int) (a5:Int) (a6:Int) (a7:Int) (a8:Bool) (a9:Bool) (a10:Bool) (a11:Int) (C:Cl) (x1:Int):SC:=
 ⟨[⟨49,[none,none,none,none,none,none,none,none,none],[],⟨none,[],true⟩⟩],[some (.row false 109 C.nr 8 (fun i=>[I ((C.R i).kind),I ((C.R i).mon),I ((C.R i).day),I ((C.R i).k),I ((C.R i).off),I ((C.R i).sh),I ((C.R i).fr),I ((C.R i).to)])),some (.row false 3 C.nd 1 (fun i=>[I (C.D i)])),none,none,some (.box true [.val (.slice none 0 0), .val (.slice none 0 0), .val (.slice none 0 0),B false,I 0,I 0, .val (.slice none 0 0)]),some (.box true [I x1]),some (.box true [I a1,I a2,I a3,I a4,I a5,I a6,I a7,B a8,B a9,B a10,I a11,B (C.off 0),B (C.off 1),B (C.off 2),B (C.off 3),B (C.off 4),B (C.off 5),B (C.off 6), .sl 0 C.nr, .sl 1 C.nd, .sl 10 (dN a1 a2 a3 a4 a5 a6 a7 a8 a9 a10 a11), .val (.slice none 0 0), .val (.slice none 0 0),B false,I 0,I 0, .val (.slice none 0 0)]),some (.box true [.ptr 6 0]),none,none,some (.row true 3 (dN a1 a2 a3 a4 a5 a6 a7 a8 a9 a10 a11) 1 (fun i=>[I (dV a5 a6 a7 a9 a8 a10 i)]))]⟩
theorem sC0_w0 {X:Cx} {a1 a2 a3 a4 a5 a6 a7:Int} {a8 a9 a10:Bool} {a11:Int} {C:Cl} {θ1:Th} {x1:Int} (hX:InX X Tryz.prog GL 11) (H:(x1=0→Ok X (sC0_h0 a1 a2 a3 a4 a5 a6 a7 a8 a9 a10 a11 C x1))∧(x1≠0→Ok X (sC0_h1 a1 a2 a3 a4 a5 a6 a7 a8 a9 a10 a11 C x1))):
  Ok X (sC0_s a1 a2 a3 a4 a5 a6 a7 a8 a9 a10 a11 C θ1 x1):=by
 obtain⟨L0,K0⟩:=H
 by_cases h0:x1=0
 ·have k:=L0 h0
  exact hX.h 13 [t_ (beq_iff_eq.2 h0)] (oldM 11) k
 ·have k:=K0 h0
  exact hX.h 7 [f_ (beq_eq_false_iff_ne.2 h0)] (oldM 11) k
noncomputable def sC2_s (a1:Int) (a2:Int) (a3:Int) (a4:Int) (a5:Int) (a6:Int) (a7:Int) (a8:Bool) (a9:Bool) (a10:Bool) (a11:Int) (C:Cl) (θ1:Th) (x1:Int) (n12_:Nat) (g1121:Nat→Int) (g1122:Nat→Int) (n13_:Nat) (g1131:Nat→Int):SC:=
 ⟨[⟨49,[some (.ptr 5 0),some (.ptr 7 0),some (.ptr 4 0),some (.tup []),some (.tup []),some (.tup []),some (.tup []),some (.tup []),some (.tup [])],[.code (bodyAt Tryz.f49 [])],⟨none,[],true⟩⟩],[some (.row false 109 C.nr 8 (fun i=>[I ((C.R i).kind),I ((C.R i).mon),I ((C.R i).day),I ((C.R i).k),I ((C.R i).off),I ((C.R i).sh),I ((C.R i).fr),I ((C.R i).to)])),some (.row false 3 C.nd 1 (fun i=>[I (C.D i)])),none,none,some (.box true [.val (.slice none 0 0), .val (.slice none 0 0), .val (.slice none 0 0),B false,I 0,I 0, .val (.slice none 0 0)]),some (.box true [I x1]),some (.box true [I a1,I a2,I a3,I a4,I a5,I a6,I a7,B a8,B a9,B a10,I a11,B (C.off 0),B (C.off 1),B (C.off 2),B (C.off 3),B (C.off 4),B (C.off 5),B (C.off 6), .sl 0 C.nr, .sl 1 C.nd, .sl 10 (dN a1 a2 a3 a4 a5 a6 a7 a8 a9 a10 a11), .val (.slice none 0 0), .sl 12 n12_,B false,I 0,I 0, .sl 13 n13_]),some (.box true [.ptr 6 0]),none,none,some (.row true 3 (dN a1 a2 a3 a4 a5 a6 a7 a8 a9 a10 a11) 1 (fun i=>[I (dV a5 a6 a7 a9 a8 a10 i)])),none,some (.row true 121 n12_ 2 (fun i=>[I (g1121 i),I (g1122 i)])),ro n13_ g1131]⟩
noncomputable def sC2_h0 (a1:Int) (a2:Int) (a3:Int) (a4:Int) (a5:Int) (a6:Int) (a7:Int) (a8:Bool) (a9:Bool) (a10:Bool) (a11:Int) (C:Cl) (x1:Int) (n12_:Nat) (g1121:Nat→Int) (g1122:Nat→Int) (n13_:Nat) (g1131:Nat→Int):SC:=
 ⟨[⟨49,[none,none,none,none,none,none,none,none,none],[],⟨none,[],true⟩⟩],[some (.row false 109 C.nr 8 (fun i=>[I ((C.R i).kind),I ((C.R i).mon),I ((C.R i).day),I ((C.R i).k),I ((C.R i).off),I ((C.R i).sh),I ((C.R i).fr),I ((C.R i).to)])),some (.row false 3 C.nd 1 (fun i=>[I (C.D i)])),none,none,some (.box true [.sl 10 (dN a1 a2 a3 a4 a5 a6 a7 a8 a9 a10 a11), .val (.slice none 0 0), .sl 12 n12_,B false,I 0,I 0, .sl 13 n13_]),some (.box true [I x1]),some (.box true [I a1,I a2,I a3,I a4,I a5,I a6,I a7,B a8,B a9,B a10,I a11,B (C.off 0),B (C.off 1),B (C.off 2),B (C.off 3),B (C.off 4),B (C.off 5),B (C.off 6), .sl 0 C.nr, .sl 1 C.nd, .sl 10 (dN a1 a2 a3 a4 a5 a6 a7 a8 a9 a10 a11), .val (.slice none 0 0), .sl 12 n12_,B false,I 0,I 0, .sl 13 n13_]),some (.box true [.ptr 6 0]),none,none,some (.row true 3 (dN a1 a2 a3 a4 a5 a6 a7 a8 a9 a10 a11) 1 (fun i=>[I (dV a5 a6 a7 a9 a8 a10 i)])),none,some (.row true 121 n12_ 2 (fun i=>[I (g1121 i),I (g1122 i)])),ro n13_ g1131]⟩
noncomputable def sC2_h1 (a1:Int) (a2:Int) (a3:Int) (a4:Int) (a5:Int) (a6:Int) (a7:Int) (a8:Bool) (a9:Bool) (a10:Bool) (a11:Int) (C:Cl) (x1:Int) (n12_:Nat) (g1121:Nat→Int) (g1122:Nat→Int) (n13_:Nat) (g1131:Nat→Int):SC:=
 ⟨[⟨49,[none,none,none,none,none,none,none,none,none],[],⟨none,[],true⟩⟩],[some (.row false 109 C.nr 8 (fun i=>[I ((C.R i).kind),I ((C.R i).mon),I ((C.R i).day),I ((C.R i).k),I ((C.R i).off),I ((C.R i).sh),I ((C.R i).fr),I ((C.R i).to)])),some (.row false 3 C.nd 1 (fun i=>[I (C.D i)])),none,none,some (.box true [.val (.slice none 0 0), .val (.slice none 0 0), .val (.slice none 0 0),B false,I 0,I 0, .val (.slice none 0 0)]),some (.box true [I x1]),some (.box true [I a1,I a2,I a3,I a4,I a5,I a6,I a7,B a8,B a9,B a10,I a11,B (C.off 0),B (C.off 1),B (C.off 2),B (C.off 3),B (C.off 4),B (C.off 5),B (C.off 6), .sl 0 C.nr, .sl 1 C.nd, .sl 10 (dN a1 a2 a3 a4 a5 a6 a7 a8 a9 a10 a11), .val (.slice none 0 0), .sl 12 n12_,B false,I 0,I 0, .sl 13 n13_]),some (.box true [.ptr 6 0]),none,none,some (.row true 3 (dN a1 a2 a3 a4 a5 a6 a7 a8 a9 a10 a11) 1 (fun i=>[I (dV a5 a6 a7 a9 a8 a10 i)])),none,some (.row true 121 n12_ 2 (fun i=>[I (g1121 i),I (g1122 i)])),ro n13_ g1131]⟩
theorem sC2_w0 {X:Cx} {a1 a2 a3 a4 a5 a6 a7:Int} {a8 a9 a10:Bool} {a11:Int} {C:Cl} {θ1:Th} {x1:Int} {n12_:Nat} {g1121 g1122:Nat→Int} {n13_:Nat} {g1131:Nat→Int} (hX:InX X Tryz.prog GL 14) (H:(x1=0→Ok X (sC2_h0 a1 a2 a3 a4 a5 a6 a7 a8 a9 a10 a11 C x1 n12_ g1121 g1122 n13_ g1131))∧(x1≠0→Ok X (sC2_h1 a1 a2 a3 a4 a5 a6 a7 a8 a9 a10 a11 C x1 n12_ g1121 g1122 n13_ g1131))):
  Ok X (sC2_s a1 a2 a3 a4 a5 a6 a7 a8 a9 a10 a11 C θ1 x1 n12_ g1121 g1122 n13_ g1131):=by
 obtain⟨L0,K0⟩:=H
 by_cases h0:x1=0
 ·have k:=L0 h0
  exact hX.h 13 [t_ (beq_iff_eq.2 h0)] (oldM 14) k
 ·have k:=K0 h0
  exact hX.h 7 [f_ (beq_eq_false_iff_ne.2 h0)] (oldM 14) k
noncomputable def sC5_s (a1:Int) (a2:Int) (a3:Int) (a4:Int) (a5:Int) (a6:Int) (a7:Int) (a8:Bool) (a9:Bool) (a10:Bool) (a11:Int) (C:Cl) (θ1:Th) (x1:Int) (x2:Int) (n11_:Nat) (g1111:Nat→Int) (n12_:Nat) (g1121:Nat→Int) (g1122:Nat→Int):SC:=
 ⟨[⟨49,[some (.ptr 5 0),some (.ptr 7 0),some (.ptr 4 0),some (.tup []),some (.tup []),some (.tup []),some (.tup []),some (.tup []),some (.tup [])],[.code (bodyAt Tryz.f49 [])],⟨none,[],true⟩⟩],[some (.row false 109 C.nr 8 (fun i=>[I ((C.R i).kind),I ((C.R i).mon),I ((C.R i).day),I ((C.R i).k),I ((C.R i).off),I ((C.R i).sh),I ((C.R i).fr),I ((C.R i).to)])),some (.row false 3 C.nd 1 (fun i=>[I (C.D i)])),none,none,some (.box true [.val (.slice none 0 0), .val (.slice none 0 0), .val (.slice none 0 0),B false,I 0,I 0, .val (.slice none 0 0)]),some (.box true [I x1]),some (.box true [I a1,I a2,I a3,I a4,I a5,I a6,I a7,B a8,B a9,B a10,I a11,B (C.off 0),B (C.off 1),B (C.off 2),B (C.off 3),B (C.off 4),B (C.off 5),B (C.off 6), .sl 0 C.nr, .sl 1 C.nd, .sl 10 (dN a1 a2 a3 a4 a5 a6 a7 a8 a9 a10 a11), .sl 11 n11_, .sl 12 n12_,B a10,I x2,I (frq a7), .val (.slice none 0 0)]),some (.box true [.ptr 6 0]),none,none,some (.row true 3 (dN a1 a2 a3 a4 a5 a6 a7 a8 a9 a10 a11) 1 (fun i=>[I (dV a5 a6 a7 a9 a8 a10 i)])),ro n11_ g1111,some (.row true 121 n12_ 2 (fun i=>[I (g1121 i),I (g1122 i)]))]⟩
noncomputable def sC5_h0 (a1:Int) (a2:Int) (a3:Int) (a4:Int) (a5:Int) (a6:Int) (a7:Int) (a8:Bool) (a9:Bool) (a10:Bool) (a11:Int) (C:Cl) (x1:Int) (x2:Int) (n11_:Nat) (g1111:Nat→Int) (n12_:Nat) (g1121:Nat→Int) (g1122:Nat→Int):SC:=
 ⟨[⟨49,[none,none,none,none,none,none,none,none,none],[],⟨none,[],true⟩⟩],[some (.row false 109 C.nr 8 (fun i=>[I ((C.R i).kind),I ((C.R i).mon),I ((C.R i).day),I ((C.R i).k),I ((C.R i).off),I ((C.R i).sh),I ((C.R i).fr),I ((C.R i).to)])),some (.row false 3 C.nd 1 (fun i=>[I (C.D i)])),none,none,some (.box true [.sl 10 (dN a1 a2 a3 a4 a5 a6 a7 a8 a9 a10 a11), .sl 11 n11_, .sl 12 n12_,B a10,I x2,I (frq a7), .val (.slice none 0 0)]),some (.box true [I x1]),some (.box true [I a1,I a2,I a3,I a4,I a5,I a6,I a7,B a8,B a9,B a10,I a11,B (C.off 0),B (C.off 1),B (C.off 2),B (C.off 3),B (C.off 4),B (C.off 5),B (C.off 6), .sl 0 C.nr, .sl 1 C.nd, .sl 10 (dN a1 a2 a3 a4 a5 a6 a7 a8 a9 a10 a11), .sl 11 n11_, .sl 12 n12_,B a10,I x2,I (frq a7), .val (.slice none 0 0)]),some (.box true [.ptr 6 0]),none,none,some (.row true 3 (dN a1 a2 a3 a4 a5 a6 a7 a8 a9 a10 a11) 1 (fun i=>[I (dV a5 a6 a7 a9 a8 a10 i)])),ro n11_ g1111,some (.row true 121 n12_ 2 (fun i=>[I (g1121 i),I (g1122 i)]))]⟩
noncomputable def sC5_h1 (a1:Int) (a2:Int) (a3:Int) (a4:Int) (a5:Int) (a6:Int) (a7:Int) (a8:Bool) (a9:Bool) (a10:Bool) (a11:Int) (C:Cl) (x1:Int) (x2:Int) (n11_:Nat) (g1111:Nat→Int) (n12_:Nat) (g1121:Nat→Int) (g1122:Nat→Int):SC:=
 ⟨[⟨49,[none,none,none,none,none,none,none,none,none],[],⟨none,[],true⟩⟩],[some (.row false 109 C.nr 8 (fun i=>[I ((C.R i).kind),I ((C.R i).mon),I ((C.R i).day),I ((C.R i).k),I ((C.R i).off),I ((C.R i).sh),I ((C.R i).fr),I ((C.R i).to)])),some (.row false 3 C.nd 1 (fun i=>[I (C.D i)])),none,none,some (.box true [.val (.slice none 0 0), .val (.slice none 0 0), .val (.slice none 0 0),B false,I 0,I 0, .val (.slice none 0 0)]),some (.box true [I x1]),some (.box true [I a1,I a2,I a3,I a4,I a5,I a6,I a7,B a8,B a9,B a10,I a11,B (C.off 0),B (C.off 1),B (C.off 2),B (C.off 3),B (C.off 4),B (C.off 5),B (C.off 6), .sl 0 C.nr, .sl 1 C.nd, .sl 10 (dN a1 a2 a3 a4 a5 a6 a7 a8 a9 a10 a11), .sl 11 n11_, .sl 12 n12_,B a10,I x2,I (frq a7), .val (.slice none 0 0)]),some (.box true [.ptr 6 0]),none,none,some (.row true 3 (dN a1 a2 a3 a4 a5 a6 a7 a8 a9 a10 a11) 1 (fun i=>[I (dV a5 a6 a7 a9 a8 a10 i)])),ro n11_ g1111,some (.row true 121 n12_ 2 (fun i=>[I (g1121 i),I (g1122 i)]))]⟩
theorem sC5_w0 {X:Cx} {a1 a2 a3 a4 a5 a6 a7:Int} {a8 a9 a10:Bool} {a11:Int} {C:Cl} {θ1:Th} {x1 x2:Int} {n11_:Nat} {g1111:Nat→Int} {n12_:Nat} {g1121 g1122:Nat→Int} (hX:InX X Tryz.prog GL 13) (H:(x1=0→Ok X (sC5_h0 a1 a2 a3 a4 a5 a6 a7 a8 a9 a10 a11 C x1 x2 n11_ g1111 n12_ g1121 g1122))∧(x1≠0→Ok X (sC5_h1 a1 a2 a3 a4 a5 a6 a7 a8 a9 a10 a11 C x1 x2 n11_ g1111 n12_ g1121 g1122))):
  Ok X (sC5_s a1 a2 a3 a4 a5 a6 a7 a8 a9 a10 a11 C θ1 x1 x2 n11_ g1111 n12_ g1121 g1122):=by
 obtain⟨L0,K0⟩:=H
 by_cases h0:x1=0
 ·have k:=L0 h0
  exact hX.h 13 [t_ (beq_iff_eq.2 h0)] (oldM 13) k
 ·have k:=K0 h0
  exact hX.h 7 [f_ (beq_eq_false_iff_ne.2 h0)] (oldM 13) k
noncomputable def sC6_s (a1:Int) (a2:Int) (a3:Int) (a4:Int) (a5:Int) (a6:Int) (a7:Int) (a8:Bool) (a9:Bool) (a10:Bool) (a11:Int) (C:Cl) (θ1:Th) (x1:Int) (x2:Int) (n11_:Nat) (g1111:Nat→Int) (n12_:Nat) (g1121:Nat→Int) (g1122:Nat→Int) (n13_:Nat) (g1131:Nat→Int):SC:=
 ⟨[⟨49,[some (.ptr 5 0),some (.ptr 7 0),some (.ptr 4 0),some (.tup []),some (.tup []),some (.tup []),some (.tup []),some (.tup []),some (.tup [])],[.code (bodyAt Tryz.f49 [])],⟨none,[],true⟩⟩],[some (.row false 109 C.nr 8 (fun i=>[I ((C.R i).kind),I ((C.R i).mon),I ((C.R i).day),I ((C.R i).k),I ((C.R i).off),I ((C.R i).sh),I ((C.R i).fr),I ((C.R i).to)])),some (.row false 3 C.nd 1 (fun i=>[I (C.D i)])),none,none,some (.box true [.val (.slice none 0 0), .val (.slice none 0 0), .val (.slice none 0 0),B false,I 0,I 0, .val (.slice none 0 0)]),some (.box true [I x1]),some (.box true [I a1,I a2,I a3,I a4,I a5,I a6,I a7,B a8,B a9,B a10,I a11,B (C.off 0),B (C.off 1),B (C.off 2),B (C.off 3),B (C.off 4),B (C.off 5),B (C.off 6), .sl 0 C.nr, .sl 1 C.nd, .sl 10 (dN a1 a2 a3 a4 a5 a6 a7 a8 a9 a10 a11), .sl 11 n11_, .sl 12 n12_,B a10,I x2,I (frq a7), .sl 13 n13_]),some (.box true [.ptr 6 0]),none,none,some (.row true 3 (dN a1 a2 a3 a4 a5 a6 a7 a8 a9 a10 a11) 1 (fun i=>[I (dV a5 a6 a7 a9 a8 a10 i)])),ro n11_ g1111,some (.row true 121 n12_ 2 (fun i=>[I (g1121 i),I (g1122 i)])),ro n13_ g1131]⟩
noncomputable def sC6_h0 (a1:Int) (a2:Int) (a3:Int) (a4:Int) (a5:Int) (a6:Int) (a7:Int) (a8:Bool) (a9:Bool) (a10:Bool) (a11:Int) (C:Cl) (x1:Int) (x2:Int) (n11_:Nat) (g1111:Nat→Int) (n12_:Nat) (g1121:Nat→Int) (g1122:Nat→Int) (n13_:Nat) (g1131:Nat→Int):SC:=
 ⟨[⟨49,[none,none,none,none,none,none,none,none,none],[],⟨none,[],true⟩⟩],[some (.row false 109 C.nr 8 (fun i=>[I ((C.R i).kind),I ((C.R i).mon),I ((C.R i).day),I ((C.R i).k),I ((C.R i).off),I ((C.R i).sh),I ((C.R i).fr),I ((C.R i).to)])),some (.row false 3 C.nd 1 (fun i=>[I (C.D i)])),none,none,some (.box true [.sl 10 (dN a1 a2 a3 a4 a5 a6 a7 a8 a9 a10 a11), .sl 11 n11_, .sl 12 n12_,B a10,I x2,I (frq a7), .sl 13 n13_]),some (.box true [I x1]),some (.box true [I a1,I a2,I a3,I a4,I a5,I a6,I a7,B a8,B a9,B a10,I a11,B (C.off 0),B (C.off 1),B (C.off 2),B (C.off 3),B (C.off 4),B (C.off 5),B (C.off 6), .sl 0 C.nr, .sl 1 C.nd, .sl 10 (dN a1 a2 a3 a4 a5 a6 a7 a8 a9 a10 a11), .sl 11 n11_, .sl 12 n12_,B a10,I x2,I (frq a7), .sl 13 n13_]),some (.box true [.ptr 6 0]),none,none,some (.row true 3 (dN a1 a2 a3 a4 a5 a6 a7 a8 a9 a10 a11) 1 (fun i=>[I (dV a5 a6 a7 a9 a8 a10 i)])),ro n11_ g1111,some (.row true 121 n12_ 2 (fun i=>[I (g1121 i),I (g1122 i)])),ro n13_ g1131]⟩
noncomputable def sC6_h1 (a1:Int) (a2:Int) (a3:Int) (a4:Int) (a5:Int) (a6:Int) (a7:Int) (a8:Bool) (a9:Bool) (a10:Bool) (a11:Int) (C:Cl) (x1:Int) (x2:Int) (n11_:Nat) (g1111:Nat→Int) (n12_:Nat) (g1121:Nat→Int) (g1122:Nat→Int) (n13_:Nat) (g1131:Nat→Int):SC:=
 ⟨[⟨49,[none,none,none,none,none,none,none,none,none],[],⟨none,[],true⟩⟩],[some (.row false 109 C.nr 8 (fun i=>[I ((C.R i).kind),I ((C.R i).mon),I ((C.R i).day),I ((C.R i).k),I ((C.R i).off),I ((C.R i).sh),I ((C.R i).fr),I ((C.R i).to)])),some (.row false 3 C.nd 1 (fun i=>[I (C.D i)])),none,none,some (.box true [.val (.slice none 0 0), .val (.slice none 0 0), .val (.slice none 0 0),B false,I 0,I 0, .val (.slice none 0 0)]),some (.box true [I x1]),some (.box true [I a1,I a2,I a3,I a4,I a5,I a6,I a7,B a8,B a9,B a10,I a11,B (C.off 0),B (C.off 1),B (C.off 2),B (C.off 3),B (C.off 4),B (C.off 5),B (C.off 6), .sl 0 C.nr, .sl 1 C.nd, .sl 10 (dN a1 a2 a3 a4 a5 a6 a7 a8 a9 a10 a11), .sl 11 n11_, .sl 12 n12_,B a10,I x2,I (frq a7), .sl 13 n13_]),some (.box true [.ptr 6 0]),none,none,some (.row true 3 (dN a1 a2 a3 a4 a5 a6 a7 a8 a9 a10 a11) 1 (fun i=>[I (dV a5 a6 a7 a9 a8 a10 i)])),ro n11_ g1111,some (.row true 121 n12_ 2 (fun i=>[I (g1121 i),I (g1122 i)])),ro n13_ g1131]⟩
theorem sC6_w0 {X:Cx} {a1 a2 a3 a4 a5 a6 a7:Int} {a8 a9 a10:Bool} {a11:Int} {C:Cl} {θ1:Th} {x1 x2:Int} {n11_:Nat} {g1111:Nat→Int} {n12_:Nat} {g1121 g1122:Nat→Int} {n13_:Nat} {g1131:Nat→Int} (hX:InX X Tryz.prog GL 14) (H:(x1=0→Ok X (sC6_h0 a1 a2 a3 a4 a5 a6 a7 a8 a9 a10 a11 C x1 x2 n11_ g1111 n12_ g1121 g1122 n13_ g1131))∧(x1≠0→Ok X (sC6_h1 a1 a2 a3 a4 a5 a6 a7 a8 a9 a10 a11 C x1 x2 n11_ g1111 n12_ g1121 g1122 n13_ g1131))):
  Ok X (sC6_s a1 a2 a3 a4 a5 a6 a7 a8 a9 a10 a11 C θ1 x1 x2 n11_ g1111 n12_ g1121 g1122 n13_ g1131):=by
 obtain⟨L0,K0⟩:=H
 by_cases h0:x1=0
 ·have k:=L0 h0
  exact hX.h 13 [t_ (beq_iff_eq.2 h0)] (oldM 14) k
 ·have k:=K0 h0
  exact hX.h 7 [f_ (beq_eq_false_iff_ne.2 h0)] (oldM 14) k
noncomputable def sC7_s (a1:Int) (a2:Int) (a3:Int) (a4:Int) (a5:Int) (a6:Int) (a7:Int) (a8:Bool) (a9:Bool) (a10:Bool) (a11:Int) (C:Cl) (θ1:Th) (x1:Int) (n11_:Nat) (g1111:Nat→Int) (n12_:Nat) (g1121:Nat→Int) (g1122:Nat→Int) (n13_:Nat) (g1131:Nat→Int):SC:=
 ⟨[⟨49,[some (.ptr 5 0),some (.ptr 7 0),some (.ptr 4 0),some (.tup []),some (.tup []),some (.tup []),some (.tup []),some (.tup []),some (.tup [])],[.code (bodyAt Tryz.f49 [])],⟨none,[],true⟩⟩],[some (.row false 109 C.nr 8 (fun i=>[I ((C.R i).kind),I ((C.R i).mon),I ((C.R i).day),I ((C.R i).k),I ((C.R i).off),I ((C.R i).sh),I ((C.R i).fr),I ((C.R i).to)])),some (.row false 3 C.nd 1 (fun i=>[I (C.D i)])),none,none,some (.box true [.val (.slice none 0 0), .val (.slice none 0 0), .val (.slice none 0 0),B false,I 0,I 0, .val (.slice none 0 0)]),some (.box true [I 0]),some (.box true [I a1,I a2,I a3,I a4,I a5,I a6,I a7,B a8,B a9,B a10,I a11,B (C.off 0),B (C.off 1),B (C.off 2),B (C.off 3),B (C.off 4),B (C.off 5),B (C.off 6), .sl 0 C.nr, .sl 1 C.nd, .sl 10 (dN a1 a2 a3 a4 a5 a6 a7 a8 a9 a10 a11), .sl 11 n11_, .sl 12 n12_,B a10,I x1,I (frq a7), .sl 13 n13_]),some (.box true [.ptr 6 0]),none,none,some (.row true 3 (dN a1 a2 a3 a4 a5 a6 a7 a8 a9 a10 a11) 1 (fun i=>[I (dV a5 a6 a7 a9 a8 a10 i)])),ro n11_ g1111,some (.row true 121 n12_ 2 (fun i=>[I (g1121 i),I (g1122 i)])),ro n13_ g1131]⟩
noncomputable def sC7_h0 (a1:Int) (a2:Int) (a3:Int) (a4:Int) (a5:Int) (a6:Int) (a7:Int) (a8:Bool) (a9:Bool) (a10:Bool) (a11:Int) (C:Cl) (x1:Int) (n11_:Nat) (g1111:Nat→Int) (n12_:Nat) (g1121:Nat→Int) (g1122:Nat→Int) (n13_:Nat) (g1131:Nat→Int):SC:=
 ⟨[⟨49,[none,none,none,none,none,none,none,none,none],[],⟨none,[],true⟩⟩],[some (.row false 109 C.nr 8 (fun i=>[I ((C.R i).kind),I ((C.R i).mon),I ((C.R i).day),I ((C.R i).k),I ((C.R i).off),I ((C.R i).sh),I ((C.R i).fr),I ((C.R i).to)])),some (.row false 3 C.nd 1 (fun i=>[I (C.D i)])),none,none,some (.box true [.sl 10 (dN a1 a2 a3 a4 a5 a6 a7 a8 a9 a10 a11), .sl 11 n11_, .sl 12 n12_,B a10,I x1,I (frq a7), .sl 13 n13_]),some (.box true [I 0]),some (.box true [I a1,I a2,I a3,I a4,I a5,I a6,I a7,B a8,B a9,B a10,I a11,B (C.off 0),B (C.off 1),B (C.off 2),B (C.off 3),B (C.off 4),B (C.off 5),B (C.off 6), .sl 0 C.nr, .sl 1 C.nd, .sl 10 (dN a1 a2 a3 a4 a5 a6 a7 a8 a9 a10 a11), .sl 11 n11_, .sl 12 n12_,B a10,I x1,I (frq a7), .sl 13 n13_]),some (.box true [.ptr 6 0]),none,none,some (.row true 3 (dN a1 a2 a3 a4 a5 a6 a7 a8 a9 a10 a11) 1 (fun i=>[I (dV a5 a6 a7 a9 a8 a10 i)])),ro n11_ g1111,some (.row true 121 n12_ 2 (fun i=>[I (g1121 i),I (g1122 i)])),ro n13_ g1131]⟩
theorem sC7_w0 {X:Cx} {a1 a2 a3 a4 a5 a6 a7:Int} {a8 a9 a10:Bool} {a11:Int} {C:Cl} {θ1:Th} {x1:Int} {n11_:Nat} {g1111:Nat→Int} {n12_:Nat} {g1121 g1122:Nat→Int} {n13_:Nat} {g1131:Nat→Int} (hX:InX X Tryz.prog GL 14) (H:Ok X (sC7_h0 a1 a2 a3 a4 a5 a6 a7 a8 a9 a10 a11 C x1 n11_ g1111 n12_ g1121 g1122 n13_ g1131)):
  Ok X (sC7_s a1 a2 a3 a4 a5 a6 a7 a8 a9 a10 a11 C θ1 x1 n11_ g1111 n12_ g1121 g1122 n13_ g1131):=by
 have k:=H
 exact hX.h 13 [t_ rt] (oldM 14) k
theorem sD0 {X:Cx} {a1:Int} {a2:Int} {a3:Int} {a4:Int} {a5:Int} {a6:Int} {a7:Int} {a8:Bool} {a9:Bool} {a10:Bool} {a11:Int} {C:Cl} {θ1:Th} {x1:Int} (hX:Fi X 31 (calH C) (.tup [.agg [.val (.slice none 0 0), .val (.slice none 0 0), .val (.slice none 0 0),B false,I 0,I 0, .val (.slice none 0 0)],I x1]) []) (ho:Same X.n0 X.θ0 θ1) (hx:x1≠0):Ok (X.inn θ1 8 X.cs) (sB_h0 a1 a2 a3 a4 a5 a6 a7 a8 a9 a10 a11 C θ1 x1):=by
 have hn0:X.n0=2:=hX.n0
 refine Ok.deferRun (.inr ⟨_,rfl⟩) ho (by rw[hn0];decide) (by kernel_rfl) (by rw[hX.P];exact Tryz.func49) (by kernel_rfl) rfl (fun θ2 T2 hT2 ho2 hn2=> ?_)
 exact sC0_w0 (X:=X.inn θ2 _ _) (θ1:=θ1) ⟨hX.P,hX.gl,rfl⟩ ⟨fun e=>absurd e hx,fun _=>Ok.deferDone hX [] (.inl rfl) Tryz.func49 rfl hT2 ho2 hn2 (by kernel_rfl)⟩
theorem sD2 {X:Cx} {a1:Int} {a2:Int} {a3:Int} {a4:Int} {a5:Int} {a6:Int} {a7:Int} {a8:Bool} {a9:Bool} {a10:Bool} {a11:Int} {C:Cl} {θ1:Th} {x1:Int} {n12_:Nat} {g1121:Nat→Int} {g1122:Nat→Int} {n13_:Nat} {g1131:Nat→Int} (hX:Fi X 31 (calH C) (.tup [.agg [.val (.slice none 0 0), .val (.slice none 0 0), .val (.slice none 0 0),B false,I 0,I 0, .val (.slice none 0 0)],I x1]) []) (ho:Same X.n0 X.θ0 θ1) (hx:x1≠0):Ok (X.inn θ1 8 X.cs) (sB_h2 a1 a2 a3 a4 a5 a6 a7 a8 a9 a10 a11 C θ1 x1 n12_ g1121 g1122 n13_ g1131):=by
 have hn0:X.n0=2:=hX.n0
 refine Ok.deferRun (.inr ⟨_,rfl⟩) ho (by rw[hn0];decide) (by kernel_rfl) (by rw[hX.P];exact Tryz.func49) (by kernel_rfl) rfl (fun θ2 T2 hT2 ho2 hn2=> ?_)
 exact sC2_w0 (X:=X.inn θ2 _ _) (θ1:=θ1) ⟨hX.P,hX.gl,rfl⟩ ⟨fun e=>absurd e hx,fun _=>Ok.deferDone hX [] (.inl rfl) Tryz.func49 rfl hT2 ho2 hn2 (by kernel_rfl)⟩
theorem sD5 {X:Cx} {a1:Int} {a2:Int} {a3:Int} {a4:Int} {a5:Int} {a6:Int} {a7:Int} {a8:Bool} {a9:Bool} {a10:Bool} {a11:Int} {C:Cl} {θ1:Th} {x1:Int} {x2:Int} {n11_:Nat} {g1111:Nat→Int} {n12_:Nat} {g1121:Nat→Int} {g1122:Nat→Int} (hX:Fi X 31 (calH C) (.tup [.agg [.val (.slice none 0 0), .val (.slice none 0 0), .val (.slice none 0 0),B false,I 0,I 0, .val (.slice none 0 0)],I x1]) []) (ho:Same X.n0 X.θ0 θ1) (hx:x1≠0):Ok (X.inn θ1 8 X.cs) (sB_h5 a1 a2 a3 a4 a5 a6 a7 a8 a9 a10 a11 C θ1 x1 x2 n11_ g1111 n12_ g1121 g1122):=by
 have hn0:X.n0=2:=hX.n0
 refine Ok.deferRun (.inr ⟨_,rfl⟩) ho (by rw[hn0];decide) (by kernel_rfl) (by rw[hX.P];exact Tryz.func49) (by kernel_rfl) rfl (fun θ2 T2 hT2 ho2 hn2=> ?_)
 exact sC5_w0 (X:=X.inn θ2 _ _) (θ1:=θ1) ⟨hX.P,hX.gl,rfl⟩ ⟨fun e=>absurd e hx,fun _=>Ok.deferDone hX [] (.inl rfl) Tryz.func49 rfl hT2 ho2 hn2 (by kernel_rfl)⟩
theorem sD6 {X:Cx} {a1:Int} {a2:Int} {a3:Int} {a4:Int} {a5:Int} {a6:Int} {a7:Int} {a8:Bool} {a9:Bool} {a10:Bool} {a11:Int} {C:Cl} {θ1:Th} {x1:Int} {x2:Int} {n11_:Nat} {g1111:Nat→Int} {n12_:Nat} {g1121:Nat→Int} {g1122:Nat→Int} {n13_:Nat} {g1131:Nat→Int} (hX:Fi X 31 (calH C) (.tup [.agg [.val (.slice none 0 0), .val (.slice none 0 0), .val (.slice none 0 0),B false,I 0,I 0, .val (.slice none 0 0)],I x1]) []) (ho:Same X.n0 X.θ0 θ1) (hx:x1≠0):Ok (X.inn θ1 8 X.cs) (sB_h6 a1 a2 a3 a4 a5 a6 a7 a8 a9 a10 a11 C θ1 x1 x2 n11_ g1111 n12_ g1121 g1122 n13_ g1131):=by
 have hn0:X.n0=2:=hX.n0
 refine Ok.deferRun (.inr ⟨_,rfl⟩) ho (by rw[hn0];decide) (by kernel_rfl) (by rw[hX.P];exact Tryz.func49) (by kernel_rfl) rfl (fun θ2 T2 hT2 ho2 hn2=> ?_)
 exact sC6_w0 (X:=X.inn θ2 _ _) (θ1:=θ1) ⟨hX.P,hX.gl,rfl⟩ ⟨fun e=>absurd e hx,fun _=>Ok.deferDone hX [] (.inl rfl) Tryz.func49 rfl hT2 ho2 hn2 (by kernel_rfl)⟩
theorem sD7 {X:Cx} {a1:Int} {a2:Int} {a3:Int} {a4:Int} {a5:Int} {a6:Int} {a7:Int} {a8:Bool} {a9:Bool} {a10:Bool} {a11:Int} {C:Cl} {θ1:Th} {x1:Int} {n11_:Nat} {g1111:Nat→Int} {n12_:Nat} {g1121:Nat→Int} {g1122:Nat→Int} {n13_:Nat} {g1131:Nat→Int} (hX:Fi X 31 (calH C) (.tup [.agg [.sl 2 (dN a1 a2 a3 a4 a5 a6 a7 a8 a9 a10 a11), .sl 3 n11_, .sl 4 n12_,B a10,I x1,I (frq a7), .sl 5 n13_],I 0]) [ro (dN a1 a2 a3 a4 a5 a6 a7 a8 a9 a10 a11) (fun i=>dV a5 a6 a7 a9 a8 a10 i),ro n11_ g1111,some (.row true 121 n12_ 2 (fun i=>[I (g1121 i),I (g1122 i)])),ro n13_ g1131]) (ho:Same X.n0 X.θ0 θ1):Ok (X.inn θ1 8 X.cs) (sB_h7 a1 a2 a3 a4 a5 a6 a7 a8 a9 a10 a11 C θ1 x1 n11_ g1111 n12_ g1121 g1122 n13_ g1131):=by
 have hn0:X.n0=2:=hX.n0
 refine Ok.deferRun (.inr ⟨_,rfl⟩) ho (by rw[hn0];decide) (by kernel_rfl) (by rw[hX.P];exact Tryz.func49) (by kernel_rfl) rfl (fun θ2 T2 hT2 ho2 hn2=> ?_)
 exact sC7_w0 (X:=X.inn θ2 _ _) (θ1:=θ1) ⟨hX.P,hX.gl,rfl⟩ (Ok.deferDone hX [10,11,12,13] (.inl rfl) Tryz.func49 rfl hT2 ho2 hn2 (by kernel_rfl))
theorem sp_l3 {X:Cx} {t:Tms} {C:Cl} {θ1:Th} (hX:Fi X 31 (calH C) (plS t C (schE t C)) (plV t C)) (ho:Same X.n0 X.θ0 θ1) (h0:tCk t=0) (hs:tSh t)
  (hc:schE t C=fstE (fun i=>(tP t C i).2.2) (tN t-1)) {g13:Nat→Int} (hg: ∀ k a b eom e f,k=t.a4→partC k a b eom e f (tK t) g13=partC k a b eom e f (tK t) (fun i=>(tQ t C i).1)) (hg':schE t C=0→Ok (X.inn θ1 8 X.cs) (sB_h4 t.a1 t.a2 t.a3 t.a4 t.a5 t.a6 t.a7 t.a8 t.a9 t.a10 t.a11 C θ1 ((tN t:Nat):Int) (tE t C) (tN t) (fun i=>(tR t C i).1) (tN t-1) (fun i=>(tP t C i).1) (fun i=>(tP t C i).2.1) (tK t) g13)):
  ∀ (f i:Nat),i+f=tN t-1→(∀ j,j<i→(tP t C j).2.2=0)→ ∀ (q1 q2:Nat→Int),(i=0∨(q1=(fun i=>(tP t C i).1)∧q2=(fun i=>(tP t C i).2.1)))→
    Ok (X.inn θ1 8 X.cs) (sB_h4 t.a1 t.a2 t.a3 t.a4 t.a5 t.a6 t.a7 t.a8 t.a9 t.a10 t.a11 C θ1 (((i+1:Nat):Nat):Int) (tE t C) (tN t) (fun i=>(tR t C i).1) i q1 q2 (tK t) g13)
 |0,i,hi,hj,q1,q2,hq=>by
  have hN:=(tN_le h0 hs).1
  rcases hq with hq|⟨rfl,rfl⟩
  ·omega
  ·have e:schE t C=0:=by rw[hc];exact fstE_no (fun j hj'=>hj j (by omega))
   rw[show i+1=tN t by omega,show i=tN t-1 by omega]
   exact hg' e
 |f+1,i,hi,hj,q1,q2,hq=>by
  have hN:=tN_le h0 hs
  have hB:InX (X.inn θ1 8 X.cs) Tryz.prog GL 8:=⟨hX.P,hX.gl,rfl⟩
  have t1:((((i+1:Nat):Int)).toNat)=i+1:=Int.toNat_natCast _
  have t2:((((i+1:Nat):Int)-1).toNat)=i:=by omega
  have eP:partC t.a4 ((tR t C ((((i+1:Nat):Int)-1).toNat)).1) ((tR t C ((((i+1:Nat):Int)).toNat)).1) t.a10 (tE t C) (frq t.a7) (tK t) g13=tP t C i:=by rw[t1,t2,hg _ _ _ _ _ _ rfl];rfl
  refine sB_w3 hB ⟨fun _=> ?_,fun c=>absurd (show(((i+1:Nat):Nat):Int)<((tN t:Nat):Int)by omega) c⟩
  refine⟨irT (by omega),by omega,by omega,fun c=> ?_,fun c=> ?_⟩
  ·rw[eP]at c⊢
   have e:schE t C=(tP t C i).2.2:=by rw[hc];exact fstE_at (f:=fun i=>(tP t C i).2.2) hj c (by omega)
   refine sD6 ?_ ho c
   rw[←e]
   exact no_plan rfl hX (by rw[e];exact c)
  ·rw[eP]at c⊢
   refine⟨fun k=>(tP t C k).1,fun k hk=> ?_,fun k=>(tP t C k).2.1,fun k hk=> ?_,by omega,irT (by omega), ?_⟩
   ·by_cases d:k<i
    ·rw[if_pos d]
     rcases hq with hq|⟨rfl,rfl⟩
     ·omega
     ·rfl
    ·rw[if_neg d,show k=i by omega]
   ·by_cases d:k<i
    ·rw[if_pos d]
     rcases hq with hq|⟨rfl,rfl⟩
     ·omega
     ·rfl
    ·rw[if_neg d,show k=i by omega]
   ·exact sp_l3 hX ho h0 hs hc hg hg' f (i+1) (by omega) (fun j h=>by
     rcases Nat.lt_or_ge j i with d|d
     ·exact hj j d
     ·rw[show j=i by omega];exact c) _ _ (.inr ⟨rfl,rfl⟩)
theorem sp_l3e {X:Cx} {t:Tms} {C:Cl} {θ1:Th} (hX:Fi X 31 (calH C) (plS t C (schE t C)) (plV t C)) (ho:Same X.n0 X.θ0 θ1) (h0:tCk t=0) (hs:tSh t) {g13:Nat→Int} (hg:tK t=0∨g13=(fun i=>(tQ t C i).1)) (e:schE t C=0):
  Ok (X.inn θ1 8 X.cs) (sB_h4 t.a1 t.a2 t.a3 t.a4 t.a5 t.a6 t.a7 t.a8 t.a9 t.a10 t.a11 C θ1 ((tN t:Nat):Int) (tE t C) (tN t) (fun i=>(tR t C i).1) (tN t-1) (fun i=>(tP t C i).1) (fun i=>(tP t C i).2.1) (tK t) g13):=by
 have hB:InX (X.inn θ1 8 X.cs) Tryz.prog GL 8:=⟨hX.P,hX.gl,rfl⟩
 refine sB_w3 hB ⟨fun c=>absurd c (by omega),fun _=>sD7 ?_ ho⟩
 have h1:=the_plan hX e
 refine IsFin.same h1 ⟨⟨rfl,rfl,rfl,rfl,fun i _=>rfl⟩,⟨rfl,rfl,rfl,rfl,fun i _=>rfl⟩,⟨rfl,rfl,rfl,rfl,fun i _=>rfl⟩,⟨rfl,rfl,rfl,rfl,fun i hi=> ?_⟩,trivial⟩
 rcases hg with hg|rfl
 ·omega
 ·rfl
theorem sp_l2 {X:Cx} {t:Tms} {C:Cl} {θ1:Th} (hX:Fi X 31 (calH C) (plS t C (schE t C)) (plV t C)) (ho:Same X.n0 X.θ0 θ1) (h0:tCk t=0) (hs:tSh t) (hC:CalOk C) (h6:t.a4=6)
  (hr:fstE (fun i=>(tR t C i).2) (tN t)=0) {n12 n16:Nat} {g1 g2 g16:Nat→Int} (h12:n12=0):
  ∀ (f i:Nat),i+f=tG t→(∀ j,j<i→(tQ t C j).2=0)→ ∀ (q:Nat→Int),(i=0∨q=(fun i=>(tQ t C i).1))→
    Ok (X.inn θ1 8 X.cs) (sB_h3 t.a1 t.a2 t.a3 t.a4 t.a5 t.a6 t.a7 t.a8 t.a9 t.a10 t.a11 C θ1 (i:Int) (tE t C) (tN t) (fun i=>(tR t C i).1) n12 g1 g2 i q n16 g16)
 |0,i,hi,hj,q,hq=>by
  have hN:=(tG_le h0 hs).1
  have hB:InX (X.inn θ1 8 X.cs) Tryz.prog GL 8:=⟨hX.P,hX.gl,rfl⟩
  have hk:tK t=tG t:=if_pos h6
  have e0:fstE (fun i=>(tQ t C i).2) (tG t)=0:=fstE_no (fun j h=>hj j (by omega))
  have hc:schE t C=fstE (fun i=>(tP t C i).2.2) (tN t-1):=by unfold schE;rw[if_neg (by rw[h0];decide),if_neg (by rw[hr];decide),if_neg (by rintro ⟨-,c⟩;exact c e0)]
  rcases hq with hq|rfl
  ·omega
  subst h12
  refine sB_w2 hB ⟨fun c=>absurd (show(i:Int)<((tG t:Nat):Int)from c) (by omega),fun _=> ?_⟩
  rw[show i=tK t by omega]
  exact sp_l3 hX ho h0 hs hc (fun _ _ _ _ _ _ _=>rfl) (fun e=>sp_l3e hX ho h0 hs (.inr rfl) e) (tN t-1) 0 (by omega) (fun j h=>absurd h (Nat.not_lt_zero _)) _ _ (.inl rfl)
 |f+1,i,hi,hj,q,hq=>by
  have hN:=(tG_le h0 hs).2
  have hB:InX (X.inn θ1 8 X.cs) Tryz.prog GL 8:=⟨hX.P,hX.gl,rfl⟩
  have ti:((i:Int)).toNat=i:=Int.toNat_natCast _
  refine sB_w2 hB ⟨fun _=> ?_,fun c=>absurd (show(i:Int)<((tG t:Nat):Int)by omega) c⟩
  rw[ti]
  refine⟨show(0:Int)≤i∧(i:Int)<((tG t:Nat):Int)by omega,hC,NDay.of (tV_day h0 hs (i:=i) (by omega)),fun c=> ?_,fun c=> ?_⟩
  ·have e:schE t C=(tQ t C i).2:=by
    have e0:fstE (fun i=>(tQ t C i).2) (tG t)=(tQ t C i).2:=fstE_at (f:=fun i=>(tQ t C i).2) hj c (by omega)
    unfold schE;rw[if_neg (by rw[h0];decide),if_neg (by rw[hr];decide),if_pos ⟨h6,by rw[e0];exact c⟩,e0]
   refine sD5 ?_ ho c
   show Fi X _ _ (.tup [_,I (tQ t C i).2]) []
   rw[←e]
   exact no_plan rfl hX (by rw[e];exact c)
  ·refine⟨fun k=>(tQ t C k).1,fun k hk=> ?_,by omega,irT (by omega), ?_⟩
   ·by_cases d:k<i
    ·rw[if_pos d]
     rcases hq with hq|rfl
     ·omega
     ·rfl
    ·rw[if_neg d,show k=i by omega];rfl
   ·exact sp_l2 hX ho h0 hs hC h6 hr h12 f (i+1) (by omega) (fun j h=>by
     rcases Nat.lt_or_ge j i with d|d
     ·exact hj j d
     ·rw[show j=i by omega];exact c) _ (.inr rfl)
theorem sp_l1 {X:Cx} {t:Tms} {C:Cl} {θ1:Th} (hX:Fi X 31 (calH C) (plS t C (schE t C)) (plV t C)) (ho:Same X.n0 X.θ0 θ1) (h0:tCk t=0) (hs:tSh t) (hC:CalOk C) {n12 n13:Nat} {g1 g2 g13:Nat→Int} (h12:n12=0):
  ∀ (f i:Nat),i+f=tN t→(∀ j,j<i→(tR t C j).2=0)→ ∀ (q:Nat→Int),(i=0∨q=(fun i=>(tR t C i).1))→
    Ok (X.inn θ1 8 X.cs) (sB_h1 t.a1 t.a2 t.a3 t.a4 t.a5 t.a6 t.a7 t.a8 t.a9 t.a10 t.a11 C θ1 (i:Int) i q n12 g1 g2 n13 g13)
 |0,i,hi,hj,q,hq=>by
  have hN:=tN_le h0 hs
  have hB:InX (X.inn θ1 8 X.cs) Tryz.prog GL 8:=⟨hX.P,hX.gl,rfl⟩
  have hr:fstE (fun i=>(tR t C i).2) (tN t)=0:=fstE_no (fun j h=>hj j (by omega))
  rcases hq with hq|rfl
  ·omega
  subst h12
  have eE:(tR t C ((((i:Nat):Int)-1).toNat)).1=tE t C:=by unfold tE;rw[show((((i:Nat):Int)-1).toNat)=tN t-1 by omega]
  refine sB_w1 hB ⟨fun c=>absurd (show(i:Int)<((tN t:Nat):Int)from c) (by omega),fun _=>⟨irT (by omega),by omega,fun h6=>⟨hs, ?_⟩,fun h6=> ?_⟩⟩
  ·rw[eE]
   rw[show i=tN t by omega]
   exact sp_l2 hX ho h0 hs hC h6 hr rfl (tG t) 0 (by omega) (fun j h=>absurd h (Nat.not_lt_zero _)) _ (.inl rfl)
  ·rw[eE]
   rw[show i=tN t by omega]
   have hk:tK t=0:=if_neg h6
   have hc:schE t C=fstE (fun i=>(tP t C i).2.2) (tN t-1):=by unfold schE;rw[if_neg (by rw[h0];decide),if_neg (by rw[hr];decide),if_neg (by rintro ⟨c, -⟩;exact h6 c)]
   have key:=sp_l3 (g13:=fun _=>default) hX ho h0 hs hc (fun k a b eom e f e4=>by
    unfold partC
    rw[if_neg (show¬k=6 by omega),if_neg (show¬k=6 by omega)]) (fun e=>sp_l3e hX ho h0 hs (.inl hk) e) (tN t-1) 0 (by omega) (fun j h=>absurd h (Nat.not_lt_zero _)) g1 g2 (.inl rfl)
   rw[hk]at key
   exact key
 |f+1,i,hi,hj,q,hq=>by
  have hN:=(tN_le h0 hs).2
  have hB:InX (X.inn θ1 8 X.cs) Tryz.prog GL 8:=⟨hX.P,hX.gl,rfl⟩
  have ti:((i:Int)).toNat=i:=Int.toNat_natCast _
  refine sB_w1 hB ⟨fun _=> ?_,fun c=>absurd (show(i:Int)<((tN t:Nat):Int)by omega) c⟩
  rw[ti]
  refine⟨show(0:Int)≤i∧(i:Int)<((tN t:Nat):Int)by omega,hC,NDay.of (tD_day h0 hs (i:=i) (by omega)),fun c=> ?_,fun c=> ?_⟩
  ·have e:schE t C=(tR t C i).2:=by
    have e0:fstE (fun i=>(tR t C i).2) (tN t)=(tR t C i).2:=fstE_at (f:=fun i=>(tR t C i).2) hj c (by omega)
    unfold schE;rw[if_neg (by rw[h0];decide),if_pos (by rw[e0];exact c),e0]
   refine sD2 ?_ ho c
   show Fi X _ _ (.tup [_,I (tR t C i).2]) []
   rw[←e]
   exact no_plan rfl hX (by rw[e];exact c)
  ·refine⟨fun k=>(tR t C k).1,fun k hk=> ?_,by omega,irT (by omega), ?_⟩
   ·by_cases d:k<i
    ·rw[if_pos d]
     rcases hq with hq|rfl
     ·omega
     ·rfl
    ·rw[if_neg d,show k=i by omega];rfl
   ·exact sp_l1 hX ho h0 hs hC h12 f (i+1) (by omega) (fun j h=>by
     rcases Nat.lt_or_ge j i with d|d
     ·exact hj j d
     ·rw[show j=i by omega];exact c) _ (.inr rfl)
theorem sOf (t:Tms) {C:Cl} (hs:tSh t) (hC:CalOk C):S 31 [tmL t,calL C] (calH C) (plS t C (schE t C)) (plV t C):=by
 refine SCall.st fun X hX=>sOf_w0 hX ?_
 refine Ok.deferOp (g:= .tmp 15) (cf:=49) (bs:=[.ptr 5 0, .ptr 7 0, .ptr 4 0]) (by kernel_rfl) (by kernel_rfl) (fun θ1 ho hn=> ?_)
 have hB:InX (X.inn θ1 8 X.cs) Tryz.prog GL 8:=⟨hX.P,hX.gl,rfl⟩
 refine sB_w0 (X:=X.inn θ1 8 X.cs) hB ⟨hs,fun c=> ?_,fun c=> ?_⟩
 ·have e:schE t C=tCk t:=if_pos c
  refine sD0 ?_ ho c
  show Fi X _ _ (.tup [_,I (tCk t)]) []
  rw[←e]
  exact no_plan rfl hX (by rw[e];exact c)
 ·exact sp_l1 hX ho c hs hC rfl (tN t) 0 (by omega) (fun j h=>absurd h (Nat.not_lt_zero _)) _ (.inl rfl)
end Go.Proofs.YtelidogcomffkaaGreatDoor
