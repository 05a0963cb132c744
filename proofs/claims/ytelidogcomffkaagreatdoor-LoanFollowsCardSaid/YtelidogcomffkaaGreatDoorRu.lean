/-
Rules (chapter 12), of both.
-/
import Derived.Test.YtelidogcomffkaaGreatDoorEa
import Derived.Test.YtelidogcomffkaaGreatDoorProg
import Derived.KernelRfl
set_option linter.unusedSectionVars false
set_option linter.unusedSimpArgs false
set_option linter.unusedVariables false
set_option maxRecDepth 100000
namespace Go.Proofs.YtelidogcomffkaaGreatDoor
open Go Go.Sx
variable [Env]
structure Rl where
 kind:Int
 mon:Int
 day:Int
 k:Int
 off:Int
 sh:Int
 fr:Int
 to:Int
abbrev rlC (r:Rl):List SV:=[I r.kind,I r.mon,I r.day,I r.k,I r.off,I r.sh,I r.fr,I r.to]
def witB (a lo hi:Int):Bool:=decide (a≥lo∧a≤hi)
theorem wit_t {a lo hi:Int}:witB a lo hi=true↔a≥lo∧a≤hi:=by unfold witB;rw[decide_eq_true_eq]
theorem wit_f {a lo hi:Int}:witB a lo hi=false↔ ¬(a≥lo∧a≤hi):=by unfold witB;rw[decide_eq_false_iff_not]
def dyV (n:Int):Int:=if 1≤n∧n≤3652059 then n else 0
def dyE (n:Int):Int:=if 1≤n∧n≤3652059 then 0 else 3
def nzB (n:Int):Bool:=decide (n≠0)
theorem nz_t {n:Int}:nzB n=true↔n≠0:=by unfold nzB;rw[decide_eq_true_eq]
theorem nz_f {n:Int}:nzB n=false↔n=0:=by unfold nzB;rw[decide_eq_false_iff_not,Decidable.not_not]
def RlOk (r:Rl):Prop:=0≤r.kind∧r.kind≤3∧0≤r.sh∧r.sh≤2∧1≤r.fr∧r.fr≤r.to∧r.to≤9999∧(r.kind=3→ -100≤r.off∧r.off≤250)∧
 (r.kind≠3→1≤r.mon∧r.mon≤12∧(r.kind=0→1≤r.day∧r.day≤len 2000 r.mon)∧(r.kind≠0→0≤r.day∧r.day≤6∧(r.kind=2∨1≤r.k∧r.k≤5)))
instance (r:Rl):Decidable (RlOk r):=by unfold RlOk;infer_instance
def mayRB (r:Rl):Bool:=decide (RlOk r)
theorem may_t {r:Rl}:mayRB r=true↔RlOk r:=by unfold mayRB;rw[decide_eq_true_eq]
def nthD (r:Rl) (y:Int):Int:=(((r.day-(wdy (nbV y r.mon 1)))+7)%7)+(7*(r.k-1))
def lastD (r:Rl) (y:Int):Int:=(nbV y r.mon (len y r.mon))-((((wdy (nbV y r.mon (len y r.mon)))-r.day)+7)%7)
structure YL (r:Rl) (y:Int):Prop where
 y1:1≤y
 y2:y≤9999
 m1:1≤r.mon
 m2:r.mon≤12
 d1:0≤r.day
 d2:r.day≤6
structure YN (r:Rl) (y:Int):Prop extends YL r y where
 k1:1≤r.k
 k2:r.k≤5
structure YE (r:Rl) (y:Int):Prop where
 y1:1≤y
 y2:y≤9999
 o1: -100≤r.off
 o2:r.off≤250
def baV (r:Rl) (y:Int):Int:=if y<r.fr∨y>r.to then 0 else if r.kind=0 then nbV y r.mon r.day else if r.kind=1 then nbV y r.mon (nthD r y+1)else if r.kind=2 then lastD r y else dyV (eaN y+r.off)
def shM (n w sh:Int):Int:=if sh=1∧w=5 then n-1 else if sh=2∧w=5 then n+2 else if sh≠0∧w=6 then n+1 else n
def inV (r:Rl) (y:Int):Int:=if baV r y=0 then 0 else dyV (shM (baV r y) (wdy (baV r y)) r.sh)
def isR (r:Rl) (n:Int):Bool:=isDay n&&(decide (inV r (cY n-1)=n)||(decide (inV r (cY n)=n)||decide (inV r (cY n+1)=n)))
theorem nb_1 {y m:Int} (h1:1≤y) (h2:y≤9999) (m1:1≤m) (m2:m≤12) {d:Int}:mayC y m d=decide (1≤d∧d≤len y m):=by
 unfold mayC;rw[decide_eq_decide];constructor<;>intro h<;>omega
theorem nbV_add {y m:Int} (h1:1≤y) (h2:y≤9999) (m1:1≤m) (m2:m≤12) (d:Int):nbV y m d=if 1≤d∧d≤len y m then nbV y m 1+d-1 else 0:=by
 have l:=len_ge (y:=y) m1 m2
 have e1:nbV y m 1=numb y m 1:=by unfold nbV;rw[nb_1 h1 h2 m1 m2,decide_eq_true (by omega),if_pos rfl]
 rw[e1];unfold nbV
 rw[nb_1 h1 h2 m1 m2]
 by_cases c:1≤d∧d≤len y m
 ·rw[decide_eq_true c,if_pos rfl,if_pos c];unfold numb;omega
 ·rw[decide_eq_false c,if_neg (by decide),if_neg c]
theorem nbE_eq {y m:Int} (h1:1≤y) (h2:y≤9999) (m1:1≤m) (m2:m≤12) (d:Int):nbE y m d=if 1≤d∧d≤len y m then 0 else 3:=by
 unfold nbE
 rw[nb_1 h1 h2 m1 m2]
 by_cases c:1≤d∧d≤len y m
 ·rw[decide_eq_true c,if_pos rfl,if_pos c]
 ·rw[decide_eq_false c,if_neg (by decide),if_neg c]
theorem nb_pos {y m:Int} (h1:1≤y) (h2:y≤9999) (m1:1≤m) (m2:m≤12):1≤nbV y m 1∧nbV y m 1+len y m≤3652060:=by
 have l:=len_ge (y:=y) m1 m2
 have a:=nb_day (y:=y) (m:=m) (d:=1) (by rw[nb_1 h1 h2 m1 m2];exact decide_eq_true (by omega))
 have b:=nbV_le y m (len y m)
 rw[nbV_add h1 h2 m1 m2,if_pos (by omega)]at b
 have c:=isDay_iff.1 a
 have e1:nbV y m 1=numb y m 1:=by unfold nbV;rw[nb_1 h1 h2 m1 m2,decide_eq_true (by omega),if_pos rfl]
 omega
theorem nbEz (y m d:Int):((nbE y m d)==0)=nzB (nbV y m d):=by
 unfold nbE nzB nbV
 cases h:mayC y m d
 ·simp
 ·have:=isDay_iff.1 (nb_day h)
  simp;omega
theorem dyz (n:Int):((dyE n)==0)=nzB (dyV n):=by
 unfold dyE nzB dyV
 split<;>simp<;>omega
theorem dyV_le (n:Int):0≤dyV n∧dyV n≤3652059:=by unfold dyV;split<;>omega
theorem eaN_le {y:Int} (h1:1≤y) (h2:y≤9999):1≤eaN y∧eaN y≤3652059:=by
 have h:=(ea_ok h1 h2).1
 have:=isDay_iff.1 (nb_day h)
 unfold eaN nbV;rw[if_pos h];exact this
theorem lastD_le {r:Rl} {y:Int} (h:YL r y):1≤lastD r y∧lastD r y≤3652059:=by
 have l:=len_ge (y:=y) h.m1 h.m2
 have p:=nb_pos h.y1 h.y2 h.m1 h.m2
 unfold lastD
 rw[nbV_add h.y1 h.y2 h.m1 h.m2 (len y r.mon),if_pos (by omega)]
 have w:=wdy_le (nbV y r.mon 1+len y r.mon-1)
 have:=h.d1;have:=h.d2
 omega
theorem rl_YL {r:Rl} {y:Int} (h:RlOk r) (hy: ¬(y<r.fr∨y>r.to)) (h0:r.kind≠0) (h3:r.kind≠3):YL r y:=by
 obtain⟨g1,g2,g3,g4,g5,g6,g7,g8,g9⟩:=h
 obtain⟨k1,k2,k3,k4⟩:=g9 h3
 obtain⟨k5,k6,k7⟩:=k4 h0
 exact⟨by omega,by omega,k1,k2,k5,k6⟩
theorem rl_YN {r:Rl} {y:Int} (h:RlOk r) (hy: ¬(y<r.fr∨y>r.to)) (h1:r.kind=1):YN r y:=by
 have L:=rl_YL h hy (by omega) (by omega)
 obtain⟨g1,g2,g3,g4,g5,g6,g7,g8,g9⟩:=h
 have:=(g9 (by omega)).2.2.2 (by omega)
 exact⟨L,by omega,by omega⟩
theorem rl_YE {r:Rl} {y:Int} (h:RlOk r) (hy: ¬(y<r.fr∨y>r.to)) (h1:r.kind=3):YE r y:=by
 obtain⟨g1,g2,g3,g4,g5,g6,g7,g8,g9⟩:=h
 have:=g8 h1
 exact⟨by omega,by omega,this.1,this.2⟩
theorem baV_le {r:Rl} {y:Int} (h:RlOk r):0≤baV r y∧baV r y≤3652059:=by
 unfold baV
 split
 ·omega
 ·rename_i hy
  split
  ·exact nbV_le _ _ _
  ·rename_i k0
   split
   ·exact nbV_le _ _ _
   ·rename_i k1
    split
    ·rename_i k2;have:=lastD_le (rl_YL (y:=y) h hy k0 (by omega));omega
    ·exact dyV_le _
theorem rule_within_w {a1 a2 a3:Int} {res:SV} (H:(a1≥a2→(B (decide (a1≤a3)):SV)=res)∧(¬a1≥a2→(B false:SV)=res)):
  S 258 [I a1,I a2,I a3] [] (res) []:=by
 refine SCall.st fun X hX=> ?_
 obtain⟨L0,K0⟩:=H
 by_cases h0:a1≥a2
 ·have HE:=L0 h0
  exact(hX.to HE.symm).e [n_ 4 (t_ (dt h0))]
 ·have HE:=K0 h0
  exact(hX.to HE.symm).e [n_ 4 (f_ (df h0))]
theorem demurrageref12_in_w {a1 a2 a3:Int} {res:SV} (H:(a1≥a2→(B (decide (a1≤a3)):SV)=res)∧(¬a1≥a2→(B false:SV)=res)):
  S 73 [I a1,I a2,I a3] [] (res) []:=by
 refine SCall.st fun X hX=> ?_
 obtain⟨L0,K0⟩:=H
 by_cases h0:a1≥a2
 ·have HE:=L0 h0
  exact(hX.to HE.symm).e [n_ 4 (t_ (dt h0))]
 ·have HE:=K0 h0
  exact(hX.to HE.symm).e [n_ 4 (f_ (df h0))]
theorem rWithin (a lo hi:Int):S 258 [I a,I lo,I hi] [] (B (witB a lo hi)) []:=by
 refine rule_within_w ⟨fun c=> ?_,fun c=> ?_⟩
 ·rw[show witB a lo hi=decide (a≤hi)by unfold witB;rw[decide_eq_decide];omega]
 ·rw[show witB a lo hi=false from wit_f.2 (by omega)]
theorem rIn12 (a lo hi:Int):S 73 [I a,I lo,I hi] [] (B (witB a lo hi)) []:=by
 refine demurrageref12_in_w ⟨fun c=> ?_,fun c=> ?_⟩
 ·rw[show witB a lo hi=decide (a≤hi)by unfold witB;rw[decide_eq_decide];omega]
 ·rw[show witB a lo hi=false from wit_f.2 (by omega)]
theorem rule_day_w {a1:Int} {res:SV} (H:((witB a1 1 3652059)=false→((.tup [I 0,I 3]):SV)=res)∧((witB a1 1 3652059)=true→((.tup [I a1,I 0]):SV)=res)):
  S 252 [I a1] [] (res) []:=by
 refine SCall.st fun X hX=> ?_
 obtain⟨L0,K0⟩:=H
 refine hX.go [c_ [] (rWithin a1 1 3652059)] ?_
 rcases bcase (witB a1 1 3652059)with h0|h0
 ·have HE:=K0 h0
  exact(hX.to HE.symm).e [f_ (nf h0)]
 ·have HE:=L0 h0
  exact(hX.to HE.symm).e [t_ (nt h0)]
theorem rDayR (n:Int):S 252 [I n] [] (.tup [I (dyV n),I (dyE n)]) []:=by
 refine rule_day_w ⟨fun c=> ?_,fun c=> ?_⟩
 ·have:=wit_f.1 c;unfold dyV dyE;rw[if_neg (by omega),if_neg (by omega)]
 ·have:=wit_t.1 c;unfold dyV dyE;rw[if_pos (by omega),if_pos (by omega)]
theorem rule_law_fixed_w {r:Rl} {k0 a1:Int} {res:SV} (H:((.tup [I (nbV a1 r.mon r.day),I (nbE a1 r.mon r.day)]):SV)=res):
  S 259 [.agg [I k0,I r.mon,I r.day,I r.k,I r.off,I r.sh,I r.fr,I r.to],I a1] [] (res) []:=by
 refine SCall.st fun X hX=> ?_
 have HE:=H
 exact(hX.to HE.symm).e [c_ [] (cNumberT a1 r.mon r.day)]
theorem rule_law_nth_w {r:Rl} {k0 a1:Int} {res:SV} (H:((nbE a1 r.mon 1)≠0→((.tup [I 0,I (nbE a1 r.mon 1)]):SV)=res)∧((nbE a1 r.mon 1)=0→(0:Int)≤(nbV a1 r.mon 1)∧Ir (r.day-(wdy (nbV a1 r.mon 1)))∧Ir ((r.day-(wdy (nbV a1 r.mon 1)))+7)∧(0:Int)≤((r.day-(wdy (nbV a1 r.mon 1)))+7)∧Ir (r.k-1)∧Ir (7*(r.k-1))∧Ir ((((r.day-(wdy (nbV a1 r.mon 1)))+7)%7)+(7*(r.k-1)))∧Ir (((((r.day-(wdy (nbV a1 r.mon 1)))+7)%7)+(7*(r.k-1)))+1)∧((.tup [I (nbV a1 r.mon (((((r.day-(wdy (nbV a1 r.mon 1)))+7)%7)+(7*(r.k-1)))+1)),I (nbE a1 r.mon (((((r.day-(wdy (nbV a1 r.mon 1)))+7)%7)+(7*(r.k-1)))+1))]):SV)=res)):
  S 260 [.agg [I k0,I r.mon,I r.day,I r.k,I r.off,I r.sh,I r.fr,I r.to],I a1] [] (res) []:=by
 refine SCall.st fun X hX=> ?_
 obtain⟨L0,K0⟩:=H
 refine hX.go [c_ [] (cNumberT a1 r.mon 1)] ?_
 by_cases h0:(nbE a1 r.mon 1)=0
 ·obtain⟨h1,h2,h3,h4,h5,h6,h7,h8,HE⟩:=K0 h0
  exact(hX.to HE.symm).e [f_ (bne_eq_false_iff_eq.2 h0),d_ 11,c_ [] (show S 208 [I (nbV a1 r.mon 1)] [] (I (wdy (nbV a1 r.mon 1))) []from cWeek h1),q_ h2,q_ h3,q_ h4,q_ (show(0:Int)<7 from by decide),q_ h5,q_ h6,q_ h7,q_ h8,c_ [] (cNumberT a1 r.mon (((((r.day-(wdy (nbV a1 r.mon 1)))+7)%7)+(7*(r.k-1)))+1))]
 ·have HE:=L0 h0
  exact(hX.to HE.symm).e [t_ (bne_iff_ne.2 h0)]
theorem rule_law_last_w {r:Rl} {k0 a1:Int} {res:SV} (H:(0:Int)≤a1∧((nbE a1 r.mon (len a1 r.mon))≠0→((.tup [I 0,I (nbE a1 r.mon (len a1 r.mon))]):SV)=res)∧((nbE a1 r.mon (len a1 r.mon))=0→(0:Int)≤(nbV a1 r.mon (len a1 r.mon))∧Ir ((wdy (nbV a1 r.mon (len a1 r.mon)))-r.day)∧Ir (((wdy (nbV a1 r.mon (len a1 r.mon)))-r.day)+7)∧(0:Int)≤(((wdy (nbV a1 r.mon (len a1 r.mon)))-r.day)+7)∧Ir ((nbV a1 r.mon (len a1 r.mon))-((((wdy (nbV a1 r.mon (len a1 r.mon)))-r.day)+7)%7))∧((.tup [I ((nbV a1 r.mon (len a1 r.mon))-((((wdy (nbV a1 r.mon (len a1 r.mon)))-r.day)+7)%7)),I 0]):SV)=res)):
  S 261 [.agg [I k0,I r.mon,I r.day,I r.k,I r.off,I r.sh,I r.fr,I r.to],I a1] [] (res) []:=by
 refine SCall.st fun X hX=> ?_
 obtain⟨h0,L1,K1⟩:=H
 refine hX.go [d_ 13,c_ [] (show S 88 [I a1,I r.mon] [] (I (len a1 r.mon)) []from cLength h0),c_ [] (cNumberT a1 r.mon (len a1 r.mon))] ?_
 by_cases h1:(nbE a1 r.mon (len a1 r.mon))=0
 ·obtain⟨h2,h3,h4,h5,h6,HE⟩:=K1 h1
  exact(hX.to HE.symm).e [f_ (bne_eq_false_iff_eq.2 h1),d_ 8,c_ [] (show S 208 [I (nbV a1 r.mon (len a1 r.mon))] [] (I (wdy (nbV a1 r.mon (len a1 r.mon)))) []from cWeek h2),q_ h3,q_ h4,q_ h5,q_ (show(0:Int)<7 from by decide),q_ h6]
 ·have HE:=L1 h1
  exact(hX.to HE.symm).e [t_ (bne_iff_ne.2 h1)]
theorem rule_law_easter_w {r:Rl} {k0 a1:Int} {res:SV} (H:((eaE a1)≠0→((.tup [I 0,I (eaE a1)]):SV)=res)∧((eaE a1)=0→Ir ((eaV a1)+r.off)∧((.tup [I (dyV ((eaV a1)+r.off)),I (dyE ((eaV a1)+r.off))]):SV)=res)):
  S 262 [.agg [I k0,I r.mon,I r.day,I r.k,I r.off,I r.sh,I r.fr,I r.to],I a1] [] (res) []:=by
 refine SCall.st fun X hX=> ?_
 obtain⟨L0,K0⟩:=H
 refine hX.go [c_ [] (eaDay a1)] ?_
 by_cases h0:(eaE a1)=0
 ·obtain⟨h1,HE⟩:=K0 h0
  exact(hX.to HE.symm).e [f_ (bne_eq_false_iff_eq.2 h0),q_ h1,c_ [] (rDayR ((eaV a1)+r.off))]
 ·have HE:=L0 h0
  exact(hX.to HE.symm).e [t_ (bne_iff_ne.2 h0)]
theorem wFixed {r:Rl} {k0 y:Int}:S 259 [.agg [I k0,I r.mon,I r.day,I r.k,I r.off,I r.sh,I r.fr,I r.to],I y] [] (.tup [I (nbV y r.mon r.day),I (nbE y r.mon r.day)]) []:=rule_law_fixed_w rfl
theorem wNth {r:Rl} {k0 y:Int} (h:YN r y):S 260 [.agg [I k0,I r.mon,I r.day,I r.k,I r.off,I r.sh,I r.fr,I r.to],I y] [] (.tup [I (nbV y r.mon (nthD r y+1)),I (nbE y r.mon (nthD r y+1))]) []:=by
 have l:=len_ge (y:=y) h.m1 h.m2
 have p:=nb_pos h.y1 h.y2 h.m1 h.m2
 have w:=wdy_le (nbV y r.mon 1)
 have d1:=h.d1;have d2:=h.d2;have k1:=h.k1;have k2:=h.k2
 exact rule_law_nth_w ⟨fun c=>absurd (show nbE y r.mon 1=0 by rw[nbE_eq h.y1 h.y2 h.m1 h.m2,if_pos (by omega)]) c,fun _=>⟨by omega,irT (by omega),irT (by omega),by omega,irT (by omega),irT (by omega),irT (by omega),irT (by omega),rfl⟩⟩
theorem wLast {r:Rl} {k0 y:Int} (h:YL r y):S 261 [.agg [I k0,I r.mon,I r.day,I r.k,I r.off,I r.sh,I r.fr,I r.to],I y] [] (.tup [I (lastD r y),I 0]) []:=by
 have l:=len_ge (y:=y) h.m1 h.m2
 have p:=nb_pos h.y1 h.y2 h.m1 h.m2
 have w:=wdy_le (nbV y r.mon (len y r.mon))
 have e:=nbV_add h.y1 h.y2 h.m1 h.m2 (len y r.mon)
 rw[if_pos (by omega)]at e
 have d1:=h.d1;have d2:=h.d2;have y1:=h.y1
 exact rule_law_last_w ⟨by omega,fun c=>absurd (show nbE y r.mon (len y r.mon)=0 by rw[nbE_eq h.y1 h.y2 h.m1 h.m2,if_pos (by omega)]) c,fun _=>⟨by omega,irT (by omega),irT (by omega),by omega,irT (by omega),rfl⟩⟩
theorem eaV_eq {y:Int} (h1:1≤y) (h2:y≤9999):eaV y=eaN y∧eaE y=0:=by unfold eaV eaE;rw[if_neg (by omega),if_neg (by omega)];exact⟨rfl,rfl⟩
theorem wEaster {r:Rl} {k0 y:Int} (h:YE r y):S 262 [.agg [I k0,I r.mon,I r.day,I r.k,I r.off,I r.sh,I r.fr,I r.to],I y] [] (.tup [I (dyV (eaN y+r.off)),I (dyE (eaN y+r.off))]) []:=by
 obtain⟨e1,e2⟩:=eaV_eq h.y1 h.y2
 have n:=eaN_le h.y1 h.y2
 have o1:=h.o1;have o2:=h.o2
 refine rule_law_easter_w ⟨fun c=>absurd e2 c,fun _=> ?_⟩
 rw[e1];exact⟨irT (by omega),rfl⟩
theorem rBase0_w {r:Rl} {a1:Int} {res:SV} (H:((witB a1 r.fr r.to)=false→((.tup [I 0,B false]):SV)=res)∧((witB a1 r.fr r.to)=true→((.tup [I (nbV a1 r.mon r.day),B ((nbE a1 r.mon r.day)==0)]):SV)=res)):
  S 251 [.agg [I 0,I r.mon,I r.day,I r.k,I r.off,I r.sh,I r.fr,I r.to],I a1] [] (res) []:=by
 refine SCall.st fun X hX=> ?_
 obtain⟨L0,K0⟩:=H
 refine hX.go [c_ [] (rWithin a1 r.fr r.to)] ?_
 rcases bcase (witB a1 r.fr r.to)with h0|h0
 ·have HE:=K0 h0
  exact(hX.to HE.symm).e [f_ (nf h0),q_ (show ∀ k,k<4→(lrow [[.fn (.func 259) [] []],[.fn (.func 260) [] []],[.fn (.func 261) [] []],[.fn (.func 262) [] []]]) k=[[.fn (.func 259) [] []],[.fn (.func 260) [] []],[.fn (.func 261) [] []],[.fn (.func 262) [] []]].getD k []from by intro k hk;match k,hk with|0,_=>rfl|1,_=>rfl|2,_=>rfl|3,_=>rfl|k+4,hk=>omega),q_ (show(0:Int)≤0∧0<((4:Nat):Int)from by decide),q_ (re 4),q_ (show(0:Int)≤0∧0<((4:Nat):Int)from by decide),h_ [.row (lrow [[.fn (.func 259) [] []],[.fn (.func 260) [] []],[.fn (.func 261) [] []],[.fn (.func 262) [] []]])],d_ 12,c_ [] (show S 259 [.agg [I 0,I r.mon,I r.day,I r.k,I r.off,I r.sh,I r.fr,I r.to],I a1] [] (.tup [I (nbV a1 r.mon r.day),I (nbE a1 r.mon r.day)]) []from wFixed)]
 ·have HE:=L0 h0
  exact(hX.to HE.symm).e [t_ (nt h0)]
theorem rBase1_w {r:Rl} {a1:Int} {res:SV} (H:((witB a1 r.fr r.to)=false→((.tup [I 0,B false]):SV)=res)∧((witB a1 r.fr r.to)=true→YN r a1∧((.tup [I (nbV a1 r.mon (nthD r a1+1)),B ((nbE a1 r.mon (nthD r a1+1))==0)]):SV)=res)):
  S 251 [.agg [I 1,I r.mon,I r.day,I r.k,I r.off,I r.sh,I r.fr,I r.to],I a1] [] (res) []:=by
 refine SCall.st fun X hX=> ?_
 obtain⟨L0,K0⟩:=H
 refine hX.go [c_ [] (rWithin a1 r.fr r.to)] ?_
 rcases bcase (witB a1 r.fr r.to)with h0|h0
 ·obtain⟨h1,HE⟩:=K0 h0
  exact(hX.to HE.symm).e [f_ (nf h0),q_ (show ∀ k,k<4→(lrow [[.fn (.func 259) [] []],[.fn (.func 260) [] []],[.fn (.func 261) [] []],[.fn (.func 262) [] []]]) k=[[.fn (.func 259) [] []],[.fn (.func 260) [] []],[.fn (.func 261) [] []],[.fn (.func 262) [] []]].getD k []from by intro k hk;match k,hk with|0,_=>rfl|1,_=>rfl|2,_=>rfl|3,_=>rfl|k+4,hk=>omega),q_ (show(0:Int)≤1∧1<((4:Nat):Int)from by decide),q_ (re 4),q_ (show(0:Int)≤1∧1<((4:Nat):Int)from by decide),h_ [.row (lrow [[.fn (.func 259) [] []],[.fn (.func 260) [] []],[.fn (.func 261) [] []],[.fn (.func 262) [] []]])],d_ 12,c_ [] (show S 260 [.agg [I 1,I r.mon,I r.day,I r.k,I r.off,I r.sh,I r.fr,I r.to],I a1] [] (.tup [I (nbV a1 r.mon (nthD r a1+1)),I (nbE a1 r.mon (nthD r a1+1))]) []from wNth h1)]
 ·have HE:=L0 h0
  exact(hX.to HE.symm).e [t_ (nt h0)]
theorem rBase2_w {r:Rl} {a1:Int} {res:SV} (H:((witB a1 r.fr r.to)=false→((.tup [I 0,B false]):SV)=res)∧((witB a1 r.fr r.to)=true→YL r a1∧((.tup [I (lastD r a1),B (0==0)]):SV)=res)):
  S 251 [.agg [I 2,I r.mon,I r.day,I r.k,I r.off,I r.sh,I r.fr,I r.to],I a1] [] (res) []:=by
 refine SCall.st fun X hX=> ?_
 obtain⟨L0,K0⟩:=H
 refine hX.go [c_ [] (rWithin a1 r.fr r.to)] ?_
 rcases bcase (witB a1 r.fr r.to)with h0|h0
 ·obtain⟨h1,HE⟩:=K0 h0
  exact(hX.to HE.symm).e [f_ (nf h0),q_ (show ∀ k,k<4→(lrow [[.fn (.func 259) [] []],[.fn (.func 260) [] []],[.fn (.func 261) [] []],[.fn (.func 262) [] []]]) k=[[.fn (.func 259) [] []],[.fn (.func 260) [] []],[.fn (.func 261) [] []],[.fn (.func 262) [] []]].getD k []from by intro k hk;match k,hk with|0,_=>rfl|1,_=>rfl|2,_=>rfl|3,_=>rfl|k+4,hk=>omega),q_ (show(0:Int)≤2∧2<((4:Nat):Int)from by decide),q_ (re 4),q_ (show(0:Int)≤2∧2<((4:Nat):Int)from by decide),h_ [.row (lrow [[.fn (.func 259) [] []],[.fn (.func 260) [] []],[.fn (.func 261) [] []],[.fn (.func 262) [] []]])],d_ 12,c_ [] (show S 261 [.agg [I 2,I r.mon,I r.day,I r.k,I r.off,I r.sh,I r.fr,I r.to],I a1] [] (.tup [I (lastD r a1),I 0]) []from wLast h1)]
 ·have HE:=L0 h0
  exact(hX.to HE.symm).e [t_ (nt h0)]
theorem rBase3_w {r:Rl} {a1:Int} {res:SV} (H:((witB a1 r.fr r.to)=false→((.tup [I 0,B false]):SV)=res)∧((witB a1 r.fr r.to)=true→YE r a1∧((.tup [I (dyV (eaN a1+r.off)),B ((dyE (eaN a1+r.off))==0)]):SV)=res)):
  S 251 [.agg [I 3,I r.mon,I r.day,I r.k,I r.off,I r.sh,I r.fr,I r.to],I a1] [] (res) []:=by
 refine SCall.st fun X hX=> ?_
 obtain⟨L0,K0⟩:=H
 refine hX.go [c_ [] (rWithin a1 r.fr r.to)] ?_
 rcases bcase (witB a1 r.fr r.to)with h0|h0
 ·obtain⟨h1,HE⟩:=K0 h0
  exact(hX.to HE.symm).e [f_ (nf h0),q_ (show ∀ k,k<4→(lrow [[.fn (.func 259) [] []],[.fn (.func 260) [] []],[.fn (.func 261) [] []],[.fn (.func 262) [] []]]) k=[[.fn (.func 259) [] []],[.fn (.func 260) [] []],[.fn (.func 261) [] []],[.fn (.func 262) [] []]].getD k []from by intro k hk;match k,hk with|0,_=>rfl|1,_=>rfl|2,_=>rfl|3,_=>rfl|k+4,hk=>omega),q_ (show(0:Int)≤3∧3<((4:Nat):Int)from by decide),q_ (re 4),q_ (show(0:Int)≤3∧3<((4:Nat):Int)from by decide),h_ [.row (lrow [[.fn (.func 259) [] []],[.fn (.func 260) [] []],[.fn (.func 261) [] []],[.fn (.func 262) [] []]])],d_ 12,c_ [] (show S 262 [.agg [I 3,I r.mon,I r.day,I r.k,I r.off,I r.sh,I r.fr,I r.to],I a1] [] (.tup [I (dyV (eaN a1+r.off)),I (dyE (eaN a1+r.off))]) []from wEaster h1)]
 ·have HE:=L0 h0
  exact(hX.to HE.symm).e [t_ (nt h0)]
theorem pBase {r:Rl} {y:Int} (hm:mayRB r=true):S 251 [.agg (rlC r),I y] [] (.tup [I (baV r y),B (nzB (baV r y))]) []:=by
 have h:=may_t.1 hm
 have out:witB y r.fr r.to=false→(.tup [I 0,B false]:SV)= .tup [I (baV r y),B (nzB (baV r y))]:=by
  intro c;have:=wit_f.1 c
  rw[show baV r y=0 by unfold baV;rw[if_pos (by omega)]];rfl
 have inn:witB y r.fr r.to=true→ ¬(y<r.fr∨y>r.to):=by intro c;have:=wit_t.1 c;omega
 have hk:r.kind=0∨r.kind=1∨r.kind=2∨r.kind=3:=by have:=h.1;have:=h.2.1;omega
 rcases hk with k|k|k|k
 ·rw[show rlC r=[I 0,I r.mon,I r.day,I r.k,I r.off,I r.sh,I r.fr,I r.to]by unfold rlC;rw[k]]
  refine rBase0_w ⟨out,fun c=> ?_⟩
  rw[show baV r y=nbV y r.mon r.day by unfold baV;rw[if_neg (inn c),if_pos k],nbEz]
 ·rw[show rlC r=[I 1,I r.mon,I r.day,I r.k,I r.off,I r.sh,I r.fr,I r.to]by unfold rlC;rw[k]]
  refine rBase1_w ⟨out,fun c=>⟨rl_YN h (inn c) k, ?_⟩⟩
  rw[show baV r y=nbV y r.mon (nthD r y+1)by unfold baV;rw[if_neg (inn c),if_neg (by omega),if_pos k],nbEz]
 ·rw[show rlC r=[I 2,I r.mon,I r.day,I r.k,I r.off,I r.sh,I r.fr,I r.to]by unfold rlC;rw[k]]
  refine rBase2_w ⟨out,fun c=>⟨rl_YL h (inn c) (by omega) (by omega), ?_⟩⟩
  have:=lastD_le (rl_YL h (inn c) (by omega) (by omega))
  rw[show baV r y=lastD r y by unfold baV;rw[if_neg (inn c),if_neg (by omega),if_neg (by omega),if_pos k],show nzB (lastD r y)=true from nz_t.2 (by omega)];rfl
 ·rw[show rlC r=[I 3,I r.mon,I r.day,I r.k,I r.off,I r.sh,I r.fr,I r.to]by unfold rlC;rw[k]]
  refine rBase3_w ⟨out,fun c=>⟨rl_YE h (inn c) k, ?_⟩⟩
  rw[show baV r y=dyV (eaN y+r.off)by unfold baV;rw[if_neg (inn c),if_neg (by omega),if_neg (by omega),if_neg (by omega)],dyz]
noncomputable def demurrageref12_Base_h0 (x1:Int) (x2:Int) (x3:Int) (x4:Int) (x5:Int) (x6:Int) (x7:Int) (x8:Int) (x9:Int) (x10:Int) (x11:Int) (x12:Int) (x13:Int):SC:=
 ⟨[⟨206,slo 94 [(2, .ptr 0 0),(9,I x1),(10,I x2),(12,I x3),(13,I x4),(14,I x5)],[.code (bodyAt Tryz.f206 [1,1,1,1,1,1,1,0,1,0,0]), .inLoop (bodyAt Tryz.f206 [1,1,1,1,1,1,1,0,1,0,0]), .inBlock 0, .code (bodyAt Tryz.f206 [1,1,1,1,1,1,1,1])],{}⟩],[some (.box true [I x6,I x7,I x8,I x9,I x10,I x11,I x12,I x13])]⟩
theorem demurrageref12_Base_w0 {X:Cx} {r:Rl} {a1:Int} {res:SV} (hX:Fi X 206 [] (res) []) (H:(a1<r.fr→((.tup [I 0,B false]):SV)=res)∧(¬a1<r.fr→(a1>r.to→((.tup [I 0,B false]):SV)=res)∧(¬a1>r.to→(r.kind=3→Ir ((eaV a1)+r.off)∧(((eaV a1)+r.off)<1→((.tup [I 0,B false]):SV)=res)∧(¬((eaV a1)+r.off)<1→(((eaV a1)+r.off)>3652059→((.tup [I 0,B false]):SV)=res)∧(¬((eaV a1)+r.off)>3652059→((.tup [I ((eaV a1)+r.off),B true]):SV)=res)))∧(r.kind≠3→(0:Int)≤a1∧Ok X (demurrageref12_Base_h0 (len a1 r.mon) (nbV a1 r.mon 1) 0 0 1 r.kind r.mon r.day r.k r.off r.sh r.fr r.to))))):
  Ok X (entry Tryz.prog 206 [.agg [I r.kind,I r.mon,I r.day,I r.k,I r.off,I r.sh,I r.fr,I r.to],I a1] []):=by
 obtain⟨L0,K0⟩:=H
 by_cases h0:a1<r.fr
 ·have HE:=L0 h0
  exact(hX.to HE.symm).e [n_ 5 (t_ (dt h0)),t_ rt]
 ·obtain⟨L1,K1⟩:=K0 h0
  refine hX.go [n_ 5 (f_ (df h0))] ?_
  by_cases h1:a1>r.to
  ·have HE:=L1 h1
   exact(hX.to HE.symm).e [t_ (dt h1)]
  ·obtain⟨L2,K2⟩:=K1 h1
   refine hX.go [f_ (df h1)] ?_
   by_cases h2:r.kind=3
   ·obtain⟨h3,L4,K4⟩:=L2 h2
    refine hX.go [t_ (beq_iff_eq.2 h2),c_ [] (rEaDay a1),q_ h3] ?_
    by_cases h4:((eaV a1)+r.off)<1
    ·have HE:=L4 h4
     exact(hX.to HE.symm).e [n_ 3 (t_ (dt h4)),t_ rt]
    ·obtain⟨L5,K5⟩:=K4 h4
     refine hX.go [n_ 3 (f_ (df h4))] ?_
     by_cases h5:((eaV a1)+r.off)>3652059
     ·have HE:=L5 h5
      exact(hX.to HE.symm).e [t_ (dt h5)]
     ·have HE:=K5 h5
      exact(hX.to HE.symm).e [f_ (df h5)]
   ·obtain⟨h3,k⟩:=K2 h2
    exact hX.h 38 [f_ (beq_eq_false_iff_ne.2 h2),c_ [] (show S 74 [I a1,I r.mon] [] (I (len a1 r.mon)) []from rLength h3),c_ [] (rNumberT a1 r.mon 1)] (oldM 1) k
theorem demurrageref12_Base_w1 {X:Cx} {x1 x2 x3 x4 x5 x6 x7 x8 x9 x10 x11 x12 x13:Int} {res:SV} (hX:Fi X 206 [] (res) []) (H:(x5≤x1→Ir (x2+x5)∧Ir ((x2+x5)-1)∧(x6=0→(x5=x8→Ir (x5+1)∧Ok X (demurrageref12_Base_h0 x1 x2 x3 ((x2+x5)-1) (x5+1) x6 x7 x8 x9 x10 x11 x12 x13))∧(x5≠x8→Ir (x5+1)∧Ok X (demurrageref12_Base_h0 x1 x2 x3 x4 (x5+1) x6 x7 x8 x9 x10 x11 x12 x13)))∧(x6≠0→(0:Int)≤((x2+x5)-1)∧((wdy ((x2+x5)-1))=x8→Ir (x3+1)∧(x6=2→Ir (x5+1)∧Ok X (demurrageref12_Base_h0 x1 x2 (x3+1) ((x2+x5)-1) (x5+1) x6 x7 x8 x9 x10 x11 x12 x13))∧(x6≠2→((x3+1)=x9→Ir (x5+1)∧Ok X (demurrageref12_Base_h0 x1 x2 (x3+1) ((x2+x5)-1) (x5+1) x6 x7 x8 x9 x10 x11 x12 x13))∧((x3+1)≠x9→Ir (x5+1)∧Ok X (demurrageref12_Base_h0 x1 x2 (x3+1) x4 (x5+1) x6 x7 x8 x9 x10 x11 x12 x13))))∧((wdy ((x2+x5)-1))≠x8→Ir (x5+1)∧Ok X (demurrageref12_Base_h0 x1 x2 x3 x4 (x5+1) x6 x7 x8 x9 x10 x11 x12 x13))))∧(¬x5≤x1→((.tup [I x4,B (decide (x4>0))]):SV)=res)):
  Ok X (demurrageref12_Base_h0 x1 x2 x3 x4 x5 x6 x7 x8 x9 x10 x11 x12 x13):=by
 obtain⟨L0,K0⟩:=H
 by_cases h0:x5≤x1
 ·obtain⟨h1,h2,L3,K3⟩:=L0 h0
  refine hX.go [t_ (dt h0),q_ h1,q_ h2] ?_
  by_cases h3:x6=0
  ·obtain⟨L4,K4⟩:=L3 h3
   refine hX.go [t_ (beq_iff_eq.2 h3)] ?_
   by_cases h4:x5=x8
   ·obtain⟨h5,k⟩:=L4 h4
    exact hX.h 12 [t_ (beq_iff_eq.2 h4),q_ h5] (oldM 1) k
   ·obtain⟨h5,k⟩:=K4 h4
    exact hX.h 9 [f_ (beq_eq_false_iff_ne.2 h4),q_ h5] (oldM 1) k
  ·obtain⟨h4,L5,K5⟩:=K3 h3
   refine hX.go [f_ (beq_eq_false_iff_ne.2 h3),d_ 4,c_ [] (show S 128 [I ((x2+x5)-1)] [] (I (wdy ((x2+x5)-1))) []from rWeek h4)] ?_
   by_cases h5:(wdy ((x2+x5)-1))=x8
   ·obtain⟨h6,L7,K7⟩:=L5 h5
    refine hX.go [t_ (beq_iff_eq.2 h5),q_ h6] ?_
    by_cases h7:x6=2
    ·obtain⟨h8,k⟩:=L7 h7
     exact hX.h 18 [n_ 5 (t_ (beq_iff_eq.2 h7)),t_ rt,q_ h8] (oldM 1) k
    ·obtain⟨L8,K8⟩:=K7 h7
     refine hX.go [n_ 5 (f_ (beq_eq_false_iff_ne.2 h7))] ?_
     by_cases h8:(x3+1)=x9
     ·obtain⟨h9,k⟩:=L8 h8
      exact hX.h 12 [t_ (beq_iff_eq.2 h8),q_ h9] (oldM 1) k
     ·obtain⟨h9,k⟩:=K8 h8
      exact hX.h 9 [f_ (beq_eq_false_iff_ne.2 h8),q_ h9] (oldM 1) k
   ·obtain⟨h6,k⟩:=K5 h5
    exact hX.h 9 [f_ (beq_eq_false_iff_ne.2 h5),q_ h6] (oldM 1) k
 ·have HE:=K0 h0
  exact(hX.to HE.symm).e [f_ (df h0)]
def snC (dl d:Int):Int:=(d-1+6-dl)/7
theorem b12_loop {X:Cx} {r:Rl} {y:Int} {res:SV} (hX:Fi X 206 [] res []) (h:RlOk r) (hy: ¬(y<r.fr∨y>r.to)) (h3:r.kind≠3) (hr: .tup [I (baV r y),B (decide (baV r y>0))]=res):
  ∀ (f:Nat) (s g d:Int),d+f=len y r.mon+1→1≤d→
    (r.kind=0→g=if 1≤r.day∧r.day<d then nbV y r.mon 1+r.day-1 else 0)→
    (r.kind≠0→s=snC ((r.day-wdy (nbV y r.mon 1)+7)%7) d)→
    (r.kind=1→g=if r.k≤s then nbV y r.mon 1+(r.day-wdy (nbV y r.mon 1)+7)%7+7*(r.k-1)else 0)→
    (r.kind=2→g=if 1≤s then nbV y r.mon 1+(r.day-wdy (nbV y r.mon 1)+7)%7+7*(s-1)else 0)→
    Ok X (demurrageref12_Base_h0 (len y r.mon) (nbV y r.mon 1) s g d r.kind r.mon r.day r.k r.off r.sh r.fr r.to):=by
 obtain⟨g1,g2, -, -,g5,g6,g7, -,g9⟩:=id h
 obtain⟨m1,m2,q0,q1⟩:=g9 h3
 have y1:1≤y:=by omega
 have y2:y≤9999:=by omega
 have l:=len_ge (y:=y) m1 m2
 have l':=(len_le y r.mon).1
 have p:=nb_pos y1 y2 m1 m2
 have w:=wdy_le (nbV y r.mon 1)
 have hw: ∀ d:Int,wdy (nbV y r.mon 1+d-1)=(wdy (nbV y r.mon 1)+(d-1))%7:=by intro d;unfold wdy;omega
 intro f
 induction f with
 |zero=>
  intro s g d hd h1 i0 i1 i2 i3
  refine demurrageref12_Base_w1 hX ⟨fun c=>absurd c (by omega),fun _=> ?_⟩
  have e:g=baV r y:=by
   unfold baV;rw[if_neg hy]
   rcases(show r.kind=0∨r.kind=1∨r.kind=2 by omega)with k|k|k
   ·rw[if_pos k,i0 k,nbV_add y1 y2 m1 m2 r.day]
    by_cases c:1≤r.day∧r.day<d
    ·rw[if_pos c,if_pos (by omega)]
    ·rw[if_neg c,if_neg (by omega)]
   ·have hq:=q1 (by omega)
    rw[if_neg (by omega),if_pos k,i2 k,i1 (by omega),nbV_add y1 y2 m1 m2 (nthD r y+1)]
    unfold nthD snC
    by_cases c:1≤(r.day-wdy (nbV y r.mon 1)+7)%7+7*(r.k-1)+1∧(r.day-wdy (nbV y r.mon 1)+7)%7+7*(r.k-1)+1≤len y r.mon
    ·rw[if_pos c,if_pos (by omega)];omega
    ·rw[if_neg c,if_neg (by omega)]
   ·have hq:=q1 (by omega)
    have hs:=i1 (by omega)
    unfold snC at hs
    rw[if_neg (by omega),if_neg (by omega),if_pos k,i3 k,if_pos (by omega)]
    unfold lastD
    rw[nbV_add y1 y2 m1 m2 (len y r.mon),if_pos (by omega),hw]
    omega
  rw[←hr,e]
 |succ f ih=>
  intro s g d hd h1 i0 i1 i2 i3
  refine demurrageref12_Base_w1 hX ⟨fun _=>⟨irT (by omega),irT (by omega),fun k=>⟨fun c=>⟨irT (by omega), ?_⟩,fun c=>⟨irT (by omega), ?_⟩⟩,fun k=>⟨by omega,fun c=>⟨irT ?_,fun k2=>⟨irT (by omega), ?_⟩,fun k2=>⟨fun c2=>⟨irT (by omega), ?_⟩,fun c2=>⟨irT (by omega), ?_⟩⟩⟩,fun c=>⟨irT (by omega), ?_⟩⟩⟩,fun c=>absurd (show d≤len y r.mon by omega) c⟩
  ·refine ih _ _ _ (by omega) (by omega) (fun _=> ?_) (fun z=>absurd k z) (fun z=>by omega) (fun z=>by omega)
   have:=q0 k
   rw[if_pos (by omega),c]
  ·refine ih _ _ _ (by omega) (by omega) (fun _=> ?_) (fun z=>absurd k z) (fun z=>by omega) (fun z=>by omega)
   rw[i0 k]
   by_cases e:1≤r.day∧r.day<d
   ·rw[if_pos e,if_pos (by omega)]
   ·rw[if_neg e,if_neg (by omega)]
  ·have:=i1 k;unfold snC at this;omega
  ·have hq:=q1 k
   have hs:=i1 k
   rw[hw]at c
   unfold snC at hs
   have hs':s+1=snC ((r.day-wdy (nbV y r.mon 1)+7)%7) (d+1):=by unfold snC;omega
   refine ih _ _ _ (by omega) (by omega) (fun z=>absurd z k) (fun _=>hs') (fun z=>by omega) (fun _=> ?_)
   rw[if_pos (by omega)];omega
  ·have hq:=q1 k
   have hs:=i1 k
   rw[hw]at c
   unfold snC at hs
   have hs':s+1=snC ((r.day-wdy (nbV y r.mon 1)+7)%7) (d+1):=by unfold snC;omega
   refine ih _ _ _ (by omega) (by omega) (fun z=>absurd z k) (fun _=>hs') (fun z=> ?_) (fun z=>absurd z k2)
   rw[if_pos (by omega)];omega
  ·have hq:=q1 k
   have hs:=i1 k
   rw[hw]at c
   unfold snC at hs
   have hs':s+1=snC ((r.day-wdy (nbV y r.mon 1)+7)%7) (d+1):=by unfold snC;omega
   refine ih _ _ _ (by omega) (by omega) (fun z=>absurd z k) (fun _=>hs') (fun z=> ?_) (fun z=>absurd z k2)
   rw[i2 z]
   by_cases e:r.k≤s
   ·rw[if_pos e,if_pos (by omega)]
   ·rw[if_neg e,if_neg (by omega)]
  ·have hq:=q1 k
   have hs:=i1 k
   rw[hw]at c
   unfold snC at hs
   have hs':s=snC ((r.day-wdy (nbV y r.mon 1)+7)%7) (d+1):=by unfold snC;omega
   exact ih _ _ _ (by omega) (by omega) (fun z=>absurd z k) (fun _=>hs') i2 i3
theorem rBase12 {r:Rl} {y:Int} (hm:mayRB r=true):S 206 [.agg (rlC r),I y] [] (.tup [I (baV r y),B (nzB (baV r y))]) []:=by
 have h:=may_t.1 hm
 refine SCall.st fun X hX=> ?_
 have out:y<r.fr∨y>r.to→(.tup [I 0,B false]:SV)= .tup [I (baV r y),B (nzB (baV r y))]:=by
  intro c;rw[show baV r y=0 by unfold baV;rw[if_pos c]];rfl
 refine demurrageref12_Base_w0 hX ⟨fun c=>out (.inl c),fun c=>⟨fun d=>out (.inr d),fun d=>⟨fun k=> ?_,fun k=>⟨by have:=h.2.2.2.2.1;omega, ?_⟩⟩⟩⟩
 ·have E:=rl_YE (y:=y) h (by omega) k
  obtain⟨e1,e2⟩:=eaV_eq E.y1 E.y2
  have n:=eaN_le E.y1 E.y2
  have o1:=E.o1;have o2:=E.o2
  have e:baV r y=dyV (eaN y+r.off):=by unfold baV;rw[if_neg (by omega),if_neg (by omega),if_neg (by omega),if_neg (by omega)]
  rw[e1,e]
  refine⟨irT (by omega),fun c=> ?_,fun c=>⟨fun c'=> ?_,fun c'=> ?_⟩⟩
  ·rw[show dyV (eaN y+r.off)=0 by unfold dyV;rw[if_neg (by omega)]];rfl
  ·rw[show dyV (eaN y+r.off)=0 by unfold dyV;rw[if_neg (by omega)]];rfl
  ·rw[show dyV (eaN y+r.off)=eaN y+r.off by unfold dyV;rw[if_pos (by omega)],show nzB (eaN y+r.off)=true from nz_t.2 (by omega)]
 ·have hl:=baV_le (y:=y) h
  have l:=len_ge (y:=y) (h.2.2.2.2.2.2.2.2 k).1 (h.2.2.2.2.2.2.2.2 k).2.1
  refine b12_loop hX h (by omega) k (by rw[show nzB (baV r y)=decide (baV r y>0)by unfold nzB;rw[decide_eq_decide];omega]) (len y r.mon).toNat 0 0 1 (by omega) (by decide) (fun _=> ?_) (fun _=> ?_) (fun z=> ?_) (fun z=> ?_)
  ·rw[if_neg (by omega)]
  ·unfold snC;omega
  ·have:=rl_YN (y:=y) h (by omega) z
   rw[if_neg (by have:=this.k1;omega)]
  ·rw[if_neg (by decide)]
theorem rule_In_w {r:Rl} {a1:Int} {res:SV} (H:mayRB r=true∧((nzB (baV r a1))=false→((.tup [I 0,B false]):SV)=res)∧((nzB (baV r a1))=true→(0:Int)≤(baV r a1)∧(r.sh=1→((wdy (baV r a1))=5→Ir ((baV r a1)-1)∧((.tup [I (dyV ((baV r a1)-1)),B ((dyE ((baV r a1)-1))==0)]):SV)=res)∧((wdy (baV r a1))≠5→(r.sh=2→(r.sh≠0→((wdy (baV r a1))=6→Ir ((baV r a1)+1)∧((.tup [I (dyV ((baV r a1)+1)),B ((dyE ((baV r a1)+1))==0)]):SV)=res)∧((wdy (baV r a1))≠6→((.tup [I (dyV (baV r a1)),B ((dyE (baV r a1))==0)]):SV)=res))∧(r.sh=0→((.tup [I (dyV (baV r a1)),B ((dyE (baV r a1))==0)]):SV)=res))∧(r.sh≠2→(r.sh≠0→((wdy (baV r a1))=6→Ir ((baV r a1)+1)∧((.tup [I (dyV ((baV r a1)+1)),B ((dyE ((baV r a1)+1))==0)]):SV)=res)∧((wdy (baV r a1))≠6→((.tup [I (dyV (baV r a1)),B ((dyE (baV r a1))==0)]):SV)=res))∧(r.sh=0→((.tup [I (dyV (baV r a1)),B ((dyE (baV r a1))==0)]):SV)=res))))∧(r.sh≠1→(r.sh=2→((wdy (baV r a1))=5→Ir ((baV r a1)+1)∧Ir (((baV r a1)+1)+1)∧((.tup [I (dyV (((baV r a1)+1)+1)),B ((dyE (((baV r a1)+1)+1))==0)]):SV)=res)∧((wdy (baV r a1))≠5→(r.sh≠0→((wdy (baV r a1))=6→Ir ((baV r a1)+1)∧((.tup [I (dyV ((baV r a1)+1)),B ((dyE ((baV r a1)+1))==0)]):SV)=res)∧((wdy (baV r a1))≠6→((.tup [I (dyV (baV r a1)),B ((dyE (baV r a1))==0)]):SV)=res))∧(r.sh=0→((.tup [I (dyV (baV r a1)),B ((dyE (baV r a1))==0)]):SV)=res)))∧(r.sh≠2→(r.sh≠0→((wdy (baV r a1))=6→Ir ((baV r a1)+1)∧((.tup [I (dyV ((baV r a1)+1)),B ((dyE ((baV r a1)+1))==0)]):SV)=res)∧((wdy (baV r a1))≠6→((.tup [I (dyV (baV r a1)),B ((dyE (baV r a1))==0)]):SV)=res))∧(r.sh=0→((.tup [I (dyV (baV r a1)),B ((dyE (baV r a1))==0)]):SV)=res))))):
  S 237 [.agg [I r.kind,I r.mon,I r.day,I r.k,I r.off,I r.sh,I r.fr,I r.to],I a1] [] (res) []:=by
 refine SCall.st fun X hX=> ?_
 obtain⟨h0,L1,K1⟩:=H
 refine hX.go [c_ [] (show S 251 [.agg [I r.kind,I r.mon,I r.day,I r.k,I r.off,I r.sh,I r.fr,I r.to],I a1] [] (.tup [I (baV r a1),B (nzB (baV r a1))]) []from pBase h0)] ?_
 rcases bcase (nzB (baV r a1))with h1|h1
 ·obtain⟨h2,L3,K3⟩:=K1 h1
  refine hX.go [f_ (nf h1),c_ [] (show S 208 [I (baV r a1)] [] (I (wdy (baV r a1))) []from cWeek h2)] ?_
  by_cases h3:r.sh=1
  ·obtain⟨L4,K4⟩:=L3 h3
   refine hX.go [n_ 3 (t_ (beq_iff_eq.2 h3))] ?_
   by_cases h4:(wdy (baV r a1))=5
   ·obtain⟨h5,HE⟩:=L4 h4
    exact(hX.to HE.symm).e [t_ (beq_iff_eq.2 h4),q_ h5,c_ [] (rDayR ((baV r a1)-1))]
   ·obtain⟨L5,K5⟩:=K4 h4
    refine hX.go [f_ (beq_eq_false_iff_ne.2 h4)] ?_
    by_cases h5:r.sh=2
    ·obtain⟨L6,K6⟩:=L5 h5
     refine hX.go [n_ 3 (t_ (beq_iff_eq.2 h5)),f_ (beq_eq_false_iff_ne.2 h4)] ?_
     by_cases h6:r.sh=0
     ·have HE:=K6 h6
      exact(hX.to HE.symm).e [n_ 3 (f_ (bne_eq_false_iff_eq.2 h6)),f_ rf,c_ [] (rDayR (baV r a1))]
     ·obtain⟨L7,K7⟩:=L6 h6
      refine hX.go [n_ 3 (t_ (bne_iff_ne.2 h6))] ?_
      by_cases h7:(wdy (baV r a1))=6
      ·obtain⟨h8,HE⟩:=L7 h7
       exact(hX.to HE.symm).e [t_ (beq_iff_eq.2 h7),q_ h8,c_ [] (rDayR ((baV r a1)+1))]
      ·have HE:=K7 h7
       exact(hX.to HE.symm).e [f_ (beq_eq_false_iff_ne.2 h7),c_ [] (rDayR (baV r a1))]
    ·obtain⟨L6,K6⟩:=K5 h5
     refine hX.go [n_ 3 (f_ (beq_eq_false_iff_ne.2 h5)),f_ rf] ?_
     by_cases h6:r.sh=0
     ·have HE:=K6 h6
      exact(hX.to HE.symm).e [n_ 3 (f_ (bne_eq_false_iff_eq.2 h6)),f_ rf,c_ [] (rDayR (baV r a1))]
     ·obtain⟨L7,K7⟩:=L6 h6
      refine hX.go [n_ 3 (t_ (bne_iff_ne.2 h6))] ?_
      by_cases h7:(wdy (baV r a1))=6
      ·obtain⟨h8,HE⟩:=L7 h7
       exact(hX.to HE.symm).e [t_ (beq_iff_eq.2 h7),q_ h8,c_ [] (rDayR ((baV r a1)+1))]
      ·have HE:=K7 h7
       exact(hX.to HE.symm).e [f_ (beq_eq_false_iff_ne.2 h7),c_ [] (rDayR (baV r a1))]
  ·obtain⟨L4,K4⟩:=K3 h3
   refine hX.go [n_ 3 (f_ (beq_eq_false_iff_ne.2 h3)),f_ rf] ?_
   by_cases h4:r.sh=2
   ·obtain⟨L5,K5⟩:=L4 h4
    refine hX.go [n_ 3 (t_ (beq_iff_eq.2 h4))] ?_
    by_cases h5:(wdy (baV r a1))=5
    ·obtain⟨h6,h7,HE⟩:=L5 h5
     exact(hX.to HE.symm).e [t_ (beq_iff_eq.2 h5),q_ h6,q_ h7,c_ [] (rDayR (((baV r a1)+1)+1))]
    ·obtain⟨L6,K6⟩:=K5 h5
     refine hX.go [f_ (beq_eq_false_iff_ne.2 h5)] ?_
     by_cases h6:r.sh=0
     ·have HE:=K6 h6
      exact(hX.to HE.symm).e [n_ 3 (f_ (bne_eq_false_iff_eq.2 h6)),f_ rf,c_ [] (rDayR (baV r a1))]
     ·obtain⟨L7,K7⟩:=L6 h6
      refine hX.go [n_ 3 (t_ (bne_iff_ne.2 h6))] ?_
      by_cases h7:(wdy (baV r a1))=6
      ·obtain⟨h8,HE⟩:=L7 h7
       exact(hX.to HE.symm).e [t_ (beq_iff_eq.2 h7),q_ h8,c_ [] (rDayR ((baV r a1)+1))]
      ·have HE:=K7 h7
       exact(hX.to HE.symm).e [f_ (beq_eq_false_iff_ne.2 h7),c_ [] (rDayR (baV r a1))]
   ·obtain⟨L5,K5⟩:=K4 h4
    refine hX.go [n_ 3 (f_ (beq_eq_false_iff_ne.2 h4)),f_ rf] ?_
    by_cases h5:r.sh=0
    ·have HE:=K5 h5
     exact(hX.to HE.symm).e [n_ 3 (f_ (bne_eq_false_iff_eq.2 h5)),f_ rf,c_ [] (rDayR (baV r a1))]
    ·obtain⟨L6,K6⟩:=L5 h5
     refine hX.go [n_ 3 (t_ (bne_iff_ne.2 h5))] ?_
     by_cases h6:(wdy (baV r a1))=6
     ·obtain⟨h7,HE⟩:=L6 h6
      exact(hX.to HE.symm).e [t_ (beq_iff_eq.2 h6),q_ h7,c_ [] (rDayR ((baV r a1)+1))]
     ·have HE:=K6 h6
      exact(hX.to HE.symm).e [f_ (beq_eq_false_iff_ne.2 h6),c_ [] (rDayR (baV r a1))]
 ·have HE:=L1 h1
  exact(hX.to HE.symm).e [t_ (nt h1)]
theorem demurrageref12_In_w {r:Rl} {a1:Int} {res:SV} (H:mayRB r=true∧((nzB (baV r a1))=false→((.tup [I 0,B false]):SV)=res)∧((nzB (baV r a1))=true→(0:Int)≤(baV r a1)∧(r.sh=1→((wdy (baV r a1))=5→Ir ((baV r a1)-1)∧(r.sh=2→Ir (((baV r a1)-1)+2)∧(r.sh>0→((wdy (baV r a1))=6→Ir ((((baV r a1)-1)+2)+1)∧(((((baV r a1)-1)+2)+1)<1→((.tup [I 0,B false]):SV)=res)∧(¬((((baV r a1)-1)+2)+1)<1→(((((baV r a1)-1)+2)+1)>3652059→((.tup [I 0,B false]):SV)=res)∧(¬((((baV r a1)-1)+2)+1)>3652059→((.tup [I ((((baV r a1)-1)+2)+1),B true]):SV)=res)))∧((wdy (baV r a1))≠6→((((baV r a1)-1)+2)<1→((.tup [I 0,B false]):SV)=res)∧(¬(((baV r a1)-1)+2)<1→((((baV r a1)-1)+2)>3652059→((.tup [I 0,B false]):SV)=res)∧(¬(((baV r a1)-1)+2)>3652059→((.tup [I (((baV r a1)-1)+2),B true]):SV)=res))))∧(¬r.sh>0→((((baV r a1)-1)+2)<1→((.tup [I 0,B false]):SV)=res)∧(¬(((baV r a1)-1)+2)<1→((((baV r a1)-1)+2)>3652059→((.tup [I 0,B false]):SV)=res)∧(¬(((baV r a1)-1)+2)>3652059→((.tup [I (((baV r a1)-1)+2),B true]):SV)=res))))∧(r.sh≠2→(r.sh>0→((wdy (baV r a1))=6→Ir (((baV r a1)-1)+1)∧((((baV r a1)-1)+1)<1→((.tup [I 0,B false]):SV)=res)∧(¬(((baV r a1)-1)+1)<1→((((baV r a1)-1)+1)>3652059→((.tup [I 0,B false]):SV)=res)∧(¬(((baV r a1)-1)+1)>3652059→((.tup [I (((baV r a1)-1)+1),B true]):SV)=res)))∧((wdy (baV r a1))≠6→(((baV r a1)-1)<1→((.tup [I 0,B false]):SV)=res)∧(¬((baV r a1)-1)<1→(((baV r a1)-1)>3652059→((.tup [I 0,B false]):SV)=res)∧(¬((baV r a1)-1)>3652059→((.tup [I ((baV r a1)-1),B true]):SV)=res))))∧(¬r.sh>0→(((baV r a1)-1)<1→((.tup [I 0,B false]):SV)=res)∧(¬((baV r a1)-1)<1→(((baV r a1)-1)>3652059→((.tup [I 0,B false]):SV)=res)∧(¬((baV r a1)-1)>3652059→((.tup [I ((baV r a1)-1),B true]):SV)=res)))))∧((wdy (baV r a1))≠5→(r.sh=2→(r.sh>0→((wdy (baV r a1))=6→Ir ((baV r a1)+1)∧(((baV r a1)+1)<1→((.tup [I 0,B false]):SV)=res)∧(¬((baV r a1)+1)<1→(((baV r a1)+1)>3652059→((.tup [I 0,B false]):SV)=res)∧(¬((baV r a1)+1)>3652059→((.tup [I ((baV r a1)+1),B true]):SV)=res)))∧((wdy (baV r a1))≠6→((baV r a1)<1→((.tup [I 0,B false]):SV)=res)∧(¬(baV r a1)<1→((baV r a1)>3652059→((.tup [I 0,B false]):SV)=res)∧(¬(baV r a1)>3652059→((.tup [I (baV r a1),B true]):SV)=res))))∧(¬r.sh>0→((baV r a1)<1→((.tup [I 0,B false]):SV)=res)∧(¬(baV r a1)<1→((baV r a1)>3652059→((.tup [I 0,B false]):SV)=res)∧(¬(baV r a1)>3652059→((.tup [I (baV r a1),B true]):SV)=res))))∧(r.sh≠2→(r.sh>0→((wdy (baV r a1))=6→Ir ((baV r a1)+1)∧(((baV r a1)+1)<1→((.tup [I 0,B false]):SV)=res)∧(¬((baV r a1)+1)<1→(((baV r a1)+1)>3652059→((.tup [I 0,B false]):SV)=res)∧(¬((baV r a1)+1)>3652059→((.tup [I ((baV r a1)+1),B true]):SV)=res)))∧((wdy (baV r a1))≠6→((baV r a1)<1→((.tup [I 0,B false]):SV)=res)∧(¬(baV r a1)<1→((baV r a1)>3652059→((.tup [I 0,B false]):SV)=res)∧(¬(baV r a1)>3652059→((.tup [I (baV r a1),B true]):SV)=res))))∧(¬r.sh>0→((baV r a1)<1→((.tup [I 0,B false]):SV)=res)∧(¬(baV r a1)<1→((baV r a1)>3652059→((.tup [I 0,B false]):SV)=res)∧(¬(baV r a1)>3652059→((.tup [I (baV r a1),B true]):SV)=res))))))∧(r.sh≠1→(r.sh=2→((wdy (baV r a1))=5→Ir ((baV r a1)+2)∧(r.sh>0→((wdy (baV r a1))=6→Ir (((baV r a1)+2)+1)∧((((baV r a1)+2)+1)<1→((.tup [I 0,B false]):SV)=res)∧(¬(((baV r a1)+2)+1)<1→((((baV r a1)+2)+1)>3652059→((.tup [I 0,B false]):SV)=res)∧(¬(((baV r a1)+2)+1)>3652059→((.tup [I (((baV r a1)+2)+1),B true]):SV)=res)))∧((wdy (baV r a1))≠6→(((baV r a1)+2)<1→((.tup [I 0,B false]):SV)=res)∧(¬((baV r a1)+2)<1→(((baV r a1)+2)>3652059→((.tup [I 0,B false]):SV)=res)∧(¬((baV r a1)+2)>3652059→((.tup [I ((baV r a1)+2),B true]):SV)=res))))∧(¬r.sh>0→(((baV r a1)+2)<1→((.tup [I 0,B false]):SV)=res)∧(¬((baV r a1)+2)<1→(((baV r a1)+2)>3652059→((.tup [I 0,B false]):SV)=res)∧(¬((baV r a1)+2)>3652059→((.tup [I ((baV r a1)+2),B true]):SV)=res))))∧((wdy (baV r a1))≠5→(r.sh>0→((wdy (baV r a1))=6→Ir ((baV r a1)+1)∧(((baV r a1)+1)<1→((.tup [I 0,B false]):SV)=res)∧(¬((baV r a1)+1)<1→(((baV r a1)+1)>3652059→((.tup [I 0,B false]):SV)=res)∧(¬((baV r a1)+1)>3652059→((.tup [I ((baV r a1)+1),B true]):SV)=res)))∧((wdy (baV r a1))≠6→((baV r a1)<1→((.tup [I 0,B false]):SV)=res)∧(¬(baV r a1)<1→((baV r a1)>3652059→((.tup [I 0,B false]):SV)=res)∧(¬(baV r a1)>3652059→((.tup [I (baV r a1),B true]):SV)=res))))∧(¬r.sh>0→((baV r a1)<1→((.tup [I 0,B false]):SV)=res)∧(¬(baV r a1)<1→((baV r a1)>3652059→((.tup [I 0,B false]):SV)=res)∧(¬(baV r a1)>3652059→((.tup [I (baV r a1),B true]):SV)=res)))))∧(r.sh≠2→(r.sh>0→((wdy (baV r a1))=6→Ir ((baV r a1)+1)∧(((baV r a1)+1)<1→((.tup [I 0,B false]):SV)=res)∧(¬((baV r a1)+1)<1→(((baV r a1)+1)>3652059→((.tup [I 0,B false]):SV)=res)∧(¬((baV r a1)+1)>3652059→((.tup [I ((baV r a1)+1),B true]):SV)=res)))∧((wdy (baV r a1))≠6→((baV r a1)<1→((.tup [I 0,B false]):SV)=res)∧(¬(baV r a1)<1→((baV r a1)>3652059→((.tup [I 0,B false]):SV)=res)∧(¬(baV r a1)>3652059→((.tup [I (baV r a1),B true]):SV)=res))))∧(¬r.sh>0→((baV r a1)<1→((.tup [I 0,B false]):SV)=res)∧(¬(baV r a1)<1→((baV r a1)>3652059→((.tup [I 0,B false]):SV)=res)∧(¬(baV r a1)>3652059→((.tup [I (baV r a1),B true]):SV)=res))))))):
  S 165 [.agg [I r.kind,I r.mon,I r.day,I r.k,I r.off,I r.sh,I r.fr,I r.to],I a1] [] (res) []:=by
 refine SCall.st fun X hX=> ?_
 obtain⟨h0,L1,K1⟩:=H
 refine hX.go [c_ [] (show S 206 [.agg [I r.kind,I r.mon,I r.day,I r.k,I r.off,I r.sh,I r.fr,I r.to],I a1] [] (.tup [I (baV r a1),B (nzB (baV r a1))]) []from rBase12 h0)] ?_
 rcases bcase (nzB (baV r a1))with h1|h1
 ·obtain⟨h2,L3,K3⟩:=K1 h1
  refine hX.go [f_ (nf h1),c_ [] (show S 128 [I (baV r a1)] [] (I (wdy (baV r a1))) []from rWeek h2)] ?_
  by_cases h3:r.sh=1
  ·obtain⟨L4,K4⟩:=L3 h3
   refine hX.go [n_ 3 (t_ (beq_iff_eq.2 h3))] ?_
   by_cases h4:(wdy (baV r a1))=5
   ·obtain⟨h5,L6,K6⟩:=L4 h4
    refine hX.go [t_ (beq_iff_eq.2 h4),q_ h5] ?_
    by_cases h6:r.sh=2
    ·obtain⟨h7,L8,K8⟩:=L6 h6
     refine hX.go [n_ 3 (t_ (beq_iff_eq.2 h6)),t_ (beq_iff_eq.2 h4),q_ h7] ?_
     by_cases h8:r.sh>0
     ·obtain⟨L9,K9⟩:=L8 h8
      refine hX.go [n_ 3 (t_ (dt h8))] ?_
      by_cases h9:(wdy (baV r a1))=6
      ·obtain⟨h10,L11,K11⟩:=L9 h9
       refine hX.go [t_ (beq_iff_eq.2 h9),q_ h10] ?_
       by_cases h11:((((baV r a1)-1)+2)+1)<1
       ·have HE:=L11 h11
        exact(hX.to HE.symm).e [n_ 3 (t_ (dt h11)),t_ rt]
       ·obtain⟨L12,K12⟩:=K11 h11
        refine hX.go [n_ 3 (f_ (df h11))] ?_
        by_cases h12:((((baV r a1)-1)+2)+1)>3652059
        ·have HE:=L12 h12
         exact(hX.to HE.symm).e [t_ (dt h12)]
        ·have HE:=K12 h12
         exact(hX.to HE.symm).e [f_ (df h12)]
      ·obtain⟨L10,K10⟩:=K9 h9
       refine hX.go [f_ (beq_eq_false_iff_ne.2 h9)] ?_
       by_cases h10:(((baV r a1)-1)+2)<1
       ·have HE:=L10 h10
        exact(hX.to HE.symm).e [n_ 3 (t_ (dt h10)),t_ rt]
       ·obtain⟨L11,K11⟩:=K10 h10
        refine hX.go [n_ 3 (f_ (df h10))] ?_
        by_cases h11:(((baV r a1)-1)+2)>3652059
        ·have HE:=L11 h11
         exact(hX.to HE.symm).e [t_ (dt h11)]
        ·have HE:=K11 h11
         exact(hX.to HE.symm).e [f_ (df h11)]
     ·obtain⟨L9,K9⟩:=K8 h8
      refine hX.go [n_ 3 (f_ (df h8)),f_ rf] ?_
      by_cases h9:(((baV r a1)-1)+2)<1
      ·have HE:=L9 h9
       exact(hX.to HE.symm).e [n_ 3 (t_ (dt h9)),t_ rt]
      ·obtain⟨L10,K10⟩:=K9 h9
       refine hX.go [n_ 3 (f_ (df h9))] ?_
       by_cases h10:(((baV r a1)-1)+2)>3652059
       ·have HE:=L10 h10
        exact(hX.to HE.symm).e [t_ (dt h10)]
       ·have HE:=K10 h10
        exact(hX.to HE.symm).e [f_ (df h10)]
    ·obtain⟨L7,K7⟩:=K6 h6
     refine hX.go [n_ 3 (f_ (beq_eq_false_iff_ne.2 h6)),f_ rf] ?_
     by_cases h7:r.sh>0
     ·obtain⟨L8,K8⟩:=L7 h7
      refine hX.go [n_ 3 (t_ (dt h7))] ?_
      by_cases h8:(wdy (baV r a1))=6
      ·obtain⟨h9,L10,K10⟩:=L8 h8
       refine hX.go [t_ (beq_iff_eq.2 h8),q_ h9] ?_
       by_cases h10:(((baV r a1)-1)+1)<1
       ·have HE:=L10 h10
        exact(hX.to HE.symm).e [n_ 3 (t_ (dt h10)),t_ rt]
       ·obtain⟨L11,K11⟩:=K10 h10
        refine hX.go [n_ 3 (f_ (df h10))] ?_
        by_cases h11:(((baV r a1)-1)+1)>3652059
        ·have HE:=L11 h11
         exact(hX.to HE.symm).e [t_ (dt h11)]
        ·have HE:=K11 h11
         exact(hX.to HE.symm).e [f_ (df h11)]
      ·obtain⟨L9,K9⟩:=K8 h8
       refine hX.go [f_ (beq_eq_false_iff_ne.2 h8)] ?_
       by_cases h9:((baV r a1)-1)<1
       ·have HE:=L9 h9
        exact(hX.to HE.symm).e [n_ 3 (t_ (dt h9)),t_ rt]
       ·obtain⟨L10,K10⟩:=K9 h9
        refine hX.go [n_ 3 (f_ (df h9))] ?_
        by_cases h10:((baV r a1)-1)>3652059
        ·have HE:=L10 h10
         exact(hX.to HE.symm).e [t_ (dt h10)]
        ·have HE:=K10 h10
         exact(hX.to HE.symm).e [f_ (df h10)]
     ·obtain⟨L8,K8⟩:=K7 h7
      refine hX.go [n_ 3 (f_ (df h7)),f_ rf] ?_
      by_cases h8:((baV r a1)-1)<1
      ·have HE:=L8 h8
       exact(hX.to HE.symm).e [n_ 3 (t_ (dt h8)),t_ rt]
      ·obtain⟨L9,K9⟩:=K8 h8
       refine hX.go [n_ 3 (f_ (df h8))] ?_
       by_cases h9:((baV r a1)-1)>3652059
       ·have HE:=L9 h9
        exact(hX.to HE.symm).e [t_ (dt h9)]
       ·have HE:=K9 h9
        exact(hX.to HE.symm).e [f_ (df h9)]
   ·obtain⟨L5,K5⟩:=K4 h4
    refine hX.go [f_ (beq_eq_false_iff_ne.2 h4)] ?_
    by_cases h5:r.sh=2
    ·obtain⟨L6,K6⟩:=L5 h5
     refine hX.go [n_ 3 (t_ (beq_iff_eq.2 h5)),f_ (beq_eq_false_iff_ne.2 h4)] ?_
     by_cases h6:r.sh>0
     ·obtain⟨L7,K7⟩:=L6 h6
      refine hX.go [n_ 3 (t_ (dt h6))] ?_
      by_cases h7:(wdy (baV r a1))=6
      ·obtain⟨h8,L9,K9⟩:=L7 h7
       refine hX.go [t_ (beq_iff_eq.2 h7),q_ h8] ?_
       by_cases h9:((baV r a1)+1)<1
       ·have HE:=L9 h9
        exact(hX.to HE.symm).e [n_ 3 (t_ (dt h9)),t_ rt]
       ·obtain⟨L10,K10⟩:=K9 h9
        refine hX.go [n_ 3 (f_ (df h9))] ?_
        by_cases h10:((baV r a1)+1)>3652059
        ·have HE:=L10 h10
         exact(hX.to HE.symm).e [t_ (dt h10)]
        ·have HE:=K10 h10
         exact(hX.to HE.symm).e [f_ (df h10)]
      ·obtain⟨L8,K8⟩:=K7 h7
       refine hX.go [f_ (beq_eq_false_iff_ne.2 h7)] ?_
       by_cases h8:(baV r a1)<1
       ·have HE:=L8 h8
        exact(hX.to HE.symm).e [n_ 3 (t_ (dt h8)),t_ rt]
       ·obtain⟨L9,K9⟩:=K8 h8
        refine hX.go [n_ 3 (f_ (df h8))] ?_
        by_cases h9:(baV r a1)>3652059
        ·have HE:=L9 h9
         exact(hX.to HE.symm).e [t_ (dt h9)]
        ·have HE:=K9 h9
         exact(hX.to HE.symm).e [f_ (df h9)]
     ·obtain⟨L7,K7⟩:=K6 h6
      refine hX.go [n_ 3 (f_ (df h6)),f_ rf] ?_
      by_cases h7:(baV r a1)<1
      ·have HE:=L7 h7
       exact(hX.to HE.symm).e [n_ 3 (t_ (dt h7)),t_ rt]
      ·obtain⟨L8,K8⟩:=K7 h7
       refine hX.go [n_ 3 (f_ (df h7))] ?_
       by_cases h8:(baV r a1)>3652059
       ·have HE:=L8 h8
        exact(hX.to HE.symm).e [t_ (dt h8)]
       ·have HE:=K8 h8
        exact(hX.to HE.symm).e [f_ (df h8)]
    ·obtain⟨L6,K6⟩:=K5 h5
     refine hX.go [n_ 3 (f_ (beq_eq_false_iff_ne.2 h5)),f_ rf] ?_
     by_cases h6:r.sh>0
     ·obtain⟨L7,K7⟩:=L6 h6
      refine hX.go [n_ 3 (t_ (dt h6))] ?_
      by_cases h7:(wdy (baV r a1))=6
      ·obtain⟨h8,L9,K9⟩:=L7 h7
       refine hX.go [t_ (beq_iff_eq.2 h7),q_ h8] ?_
       by_cases h9:((baV r a1)+1)<1
       ·have HE:=L9 h9
        exact(hX.to HE.symm).e [n_ 3 (t_ (dt h9)),t_ rt]
       ·obtain⟨L10,K10⟩:=K9 h9
        refine hX.go [n_ 3 (f_ (df h9))] ?_
        by_cases h10:((baV r a1)+1)>3652059
        ·have HE:=L10 h10
         exact(hX.to HE.symm).e [t_ (dt h10)]
        ·have HE:=K10 h10
         exact(hX.to HE.symm).e [f_ (df h10)]
      ·obtain⟨L8,K8⟩:=K7 h7
       refine hX.go [f_ (beq_eq_false_iff_ne.2 h7)] ?_
       by_cases h8:(baV r a1)<1
       ·have HE:=L8 h8
        exact(hX.to HE.symm).e [n_ 3 (t_ (dt h8)),t_ rt]
       ·obtain⟨L9,K9⟩:=K8 h8
        refine hX.go [n_ 3 (f_ (df h8))] ?_
        by_cases h9:(baV r a1)>3652059
        ·have HE:=L9 h9
         exact(hX.to HE.symm).e [t_ (dt h9)]
        ·have HE:=K9 h9
         exact(hX.to HE.symm).e [f_ (df h9)]
     ·obtain⟨L7,K7⟩:=K6 h6
      refine hX.go [n_ 3 (f_ (df h6)),f_ rf] ?_
      by_cases h7:(baV r a1)<1
      ·have HE:=L7 h7
       exact(hX.to HE.symm).e [n_ 3 (t_ (dt h7)),t_ rt]
      ·obtain⟨L8,K8⟩:=K7 h7
       refine hX.go [n_ 3 (f_ (df h7))] ?_
       by_cases h8:(baV r a1)>3652059
       ·have HE:=L8 h8
        exact(hX.to HE.symm).e [t_ (dt h8)]
       ·have HE:=K8 h8
        exact(hX.to HE.symm).e [f_ (df h8)]
  ·obtain⟨L4,K4⟩:=K3 h3
   refine hX.go [n_ 3 (f_ (beq_eq_false_iff_ne.2 h3)),f_ rf] ?_
   by_cases h4:r.sh=2
   ·obtain⟨L5,K5⟩:=L4 h4
    refine hX.go [n_ 3 (t_ (beq_iff_eq.2 h4))] ?_
    by_cases h5:(wdy (baV r a1))=5
    ·obtain⟨h6,L7,K7⟩:=L5 h5
     refine hX.go [t_ (beq_iff_eq.2 h5),q_ h6] ?_
     by_cases h7:r.sh>0
     ·obtain⟨L8,K8⟩:=L7 h7
      refine hX.go [n_ 3 (t_ (dt h7))] ?_
      by_cases h8:(wdy (baV r a1))=6
      ·obtain⟨h9,L10,K10⟩:=L8 h8
       refine hX.go [t_ (beq_iff_eq.2 h8),q_ h9] ?_
       by_cases h10:(((baV r a1)+2)+1)<1
       ·have HE:=L10 h10
        exact(hX.to HE.symm).e [n_ 3 (t_ (dt h10)),t_ rt]
       ·obtain⟨L11,K11⟩:=K10 h10
        refine hX.go [n_ 3 (f_ (df h10))] ?_
        by_cases h11:(((baV r a1)+2)+1)>3652059
        ·have HE:=L11 h11
         exact(hX.to HE.symm).e [t_ (dt h11)]
        ·have HE:=K11 h11
         exact(hX.to HE.symm).e [f_ (df h11)]
      ·obtain⟨L9,K9⟩:=K8 h8
       refine hX.go [f_ (beq_eq_false_iff_ne.2 h8)] ?_
       by_cases h9:((baV r a1)+2)<1
       ·have HE:=L9 h9
        exact(hX.to HE.symm).e [n_ 3 (t_ (dt h9)),t_ rt]
       ·obtain⟨L10,K10⟩:=K9 h9
        refine hX.go [n_ 3 (f_ (df h9))] ?_
        by_cases h10:((baV r a1)+2)>3652059
        ·have HE:=L10 h10
         exact(hX.to HE.symm).e [t_ (dt h10)]
        ·have HE:=K10 h10
         exact(hX.to HE.symm).e [f_ (df h10)]
     ·obtain⟨L8,K8⟩:=K7 h7
      refine hX.go [n_ 3 (f_ (df h7)),f_ rf] ?_
      by_cases h8:((baV r a1)+2)<1
      ·have HE:=L8 h8
       exact(hX.to HE.symm).e [n_ 3 (t_ (dt h8)),t_ rt]
      ·obtain⟨L9,K9⟩:=K8 h8
       refine hX.go [n_ 3 (f_ (df h8))] ?_
       by_cases h9:((baV r a1)+2)>3652059
       ·have HE:=L9 h9
        exact(hX.to HE.symm).e [t_ (dt h9)]
       ·have HE:=K9 h9
        exact(hX.to HE.symm).e [f_ (df h9)]
    ·obtain⟨L6,K6⟩:=K5 h5
     refine hX.go [f_ (beq_eq_false_iff_ne.2 h5)] ?_
     by_cases h6:r.sh>0
     ·obtain⟨L7,K7⟩:=L6 h6
      refine hX.go [n_ 3 (t_ (dt h6))] ?_
      by_cases h7:(wdy (baV r a1))=6
      ·obtain⟨h8,L9,K9⟩:=L7 h7
       refine hX.go [t_ (beq_iff_eq.2 h7),q_ h8] ?_
       by_cases h9:((baV r a1)+1)<1
       ·have HE:=L9 h9
        exact(hX.to HE.symm).e [n_ 3 (t_ (dt h9)),t_ rt]
       ·obtain⟨L10,K10⟩:=K9 h9
        refine hX.go [n_ 3 (f_ (df h9))] ?_
        by_cases h10:((baV r a1)+1)>3652059
        ·have HE:=L10 h10
         exact(hX.to HE.symm).e [t_ (dt h10)]
        ·have HE:=K10 h10
         exact(hX.to HE.symm).e [f_ (df h10)]
      ·obtain⟨L8,K8⟩:=K7 h7
       refine hX.go [f_ (beq_eq_false_iff_ne.2 h7)] ?_
       by_cases h8:(baV r a1)<1
       ·have HE:=L8 h8
        exact(hX.to HE.symm).e [n_ 3 (t_ (dt h8)),t_ rt]
       ·obtain⟨L9,K9⟩:=K8 h8
        refine hX.go [n_ 3 (f_ (df h8))] ?_
        by_cases h9:(baV r a1)>3652059
        ·have HE:=L9 h9
         exact(hX.to HE.symm).e [t_ (dt h9)]
        ·have HE:=K9 h9
         exact(hX.to HE.symm).e [f_ (df h9)]
     ·obtain⟨L7,K7⟩:=K6 h6
      refine hX.go [n_ 3 (f_ (df h6)),f_ rf] ?_
      by_cases h7:(baV r a1)<1
      ·have HE:=L7 h7
       exact(hX.to HE.symm).e [n_ 3 (t_ (dt h7)),t_ rt]
      ·obtain⟨L8,K8⟩:=K7 h7
       refine hX.go [n_ 3 (f_ (df h7))] ?_
       by_cases h8:(baV r a1)>3652059
       ·have HE:=L8 h8
        exact(hX.to HE.symm).e [t_ (dt h8)]
       ·have HE:=K8 h8
        exact(hX.to HE.symm).e [f_ (df h8)]
   ·obtain⟨L5,K5⟩:=K4 h4
    refine hX.go [n_ 3 (f_ (beq_eq_false_iff_ne.2 h4)),f_ rf] ?_
    by_cases h5:r.sh>0
    ·obtain⟨L6,K6⟩:=L5 h5
     refine hX.go [n_ 3 (t_ (dt h5))] ?_
     by_cases h6:(wdy (baV r a1))=6
     ·obtain⟨h7,L8,K8⟩:=L6 h6
      refine hX.go [t_ (beq_iff_eq.2 h6),q_ h7] ?_
      by_cases h8:((baV r a1)+1)<1
      ·have HE:=L8 h8
       exact(hX.to HE.symm).e [n_ 3 (t_ (dt h8)),t_ rt]
      ·obtain⟨L9,K9⟩:=K8 h8
       refine hX.go [n_ 3 (f_ (df h8))] ?_
       by_cases h9:((baV r a1)+1)>3652059
       ·have HE:=L9 h9
        exact(hX.to HE.symm).e [t_ (dt h9)]
       ·have HE:=K9 h9
        exact(hX.to HE.symm).e [f_ (df h9)]
     ·obtain⟨L7,K7⟩:=K6 h6
      refine hX.go [f_ (beq_eq_false_iff_ne.2 h6)] ?_
      by_cases h7:(baV r a1)<1
      ·have HE:=L7 h7
       exact(hX.to HE.symm).e [n_ 3 (t_ (dt h7)),t_ rt]
      ·obtain⟨L8,K8⟩:=K7 h7
       refine hX.go [n_ 3 (f_ (df h7))] ?_
       by_cases h8:(baV r a1)>3652059
       ·have HE:=L8 h8
        exact(hX.to HE.symm).e [t_ (dt h8)]
       ·have HE:=K8 h8
        exact(hX.to HE.symm).e [f_ (df h8)]
    ·obtain⟨L6,K6⟩:=K5 h5
     refine hX.go [n_ 3 (f_ (df h5)),f_ rf] ?_
     by_cases h6:(baV r a1)<1
     ·have HE:=L6 h6
      exact(hX.to HE.symm).e [n_ 3 (t_ (dt h6)),t_ rt]
     ·obtain⟨L7,K7⟩:=K6 h6
      refine hX.go [n_ 3 (f_ (df h6))] ?_
      by_cases h7:(baV r a1)>3652059
      ·have HE:=L7 h7
       exact(hX.to HE.symm).e [t_ (dt h7)]
      ·have HE:=K7 h7
       exact(hX.to HE.symm).e [f_ (df h7)]
 ·have HE:=L1 h1
  exact(hX.to HE.symm).e [t_ (nt h1)]
theorem sh_0 {n w sh:Int} (h:shM n w sh<1∨shM n w sh>3652059):(.tup [I 0,B false]:SV)= .tup [I (dyV (shM n w sh)),B (nzB (dyV (shM n w sh)))]:=by
 rw[show dyV (shM n w sh)=0 by unfold dyV;rw[if_neg (by omega)]];rfl
theorem sh_1 {n w sh m:Int} (h:shM n w sh=m) (h1:1≤m) (h2:m≤3652059):(.tup [I m,B true]:SV)= .tup [I (dyV (shM n w sh)),B (nzB (dyV (shM n w sh)))]:=by
 rw[h,show dyV m=m by unfold dyV;rw[if_pos (by omega)],show nzB m=true from nz_t.2 (by omega)]
theorem sh_2 {n w sh m:Int} (h:shM n w sh=m):(.tup [I (dyV m),B ((dyE m)==0)]:SV)= .tup [I (dyV (shM n w sh)),B (nzB (dyV (shM n w sh)))]:=by
 rw[h,dyz]
theorem pIn {r:Rl} {y:Int} (hm:mayRB r=true):S 237 [.agg (rlC r),I y] [] (.tup [I (inV r y),B (nzB (inV r y))]) []:=by
 have h:=may_t.1 hm
 have hl:=baV_le (y:=y) h
 have hs:=h.2.2.1
 refine rule_In_w ⟨hm,fun c=> ?_,fun c=> ?_⟩
 ·have c:=nz_f.1 c
  rw[show inV r y=0 by unfold inV;rw[if_pos c]];rfl
 ·have c:=nz_t.1 c
  rw[show inV r y=dyV (shM (baV r y) (wdy (baV r y)) r.sh)by unfold inV;rw[if_neg c]]
  generalize wdy (baV r y)=w
  generalize baV r y=n at*
  generalize r.sh=sh at*
  repeat' first|intro _|apply And.intro
  all_goals first|omega|exact irT (by omega)|exact sh_2 (by unfold shM;(repeat' split)<;>omega)
theorem rIn {r:Rl} {y:Int} (hm:mayRB r=true):S 165 [.agg (rlC r),I y] [] (.tup [I (inV r y),B (nzB (inV r y))]) []:=by
 have h:=may_t.1 hm
 have hl:=baV_le (y:=y) h
 have hs:=h.2.2.1
 refine demurrageref12_In_w ⟨hm,fun c=> ?_,fun c=> ?_⟩
 ·have c:=nz_f.1 c
  rw[show inV r y=0 by unfold inV;rw[if_pos c]];rfl
 ·have c:=nz_t.1 c
  rw[show inV r y=dyV (shM (baV r y) (wdy (baV r y)) r.sh)by unfold inV;rw[if_neg c]]
  generalize wdy (baV r y)=w
  generalize baV r y=n at*
  generalize r.sh=sh at*
  repeat' first|intro _|apply And.intro
  all_goals first|omega|exact irT (by omega)|exact sh_1 (by unfold shM;(repeat' split)<;>omega) (by omega) (by omega)|exact sh_0 (by unfold shM;(repeat' split)<;>omega)|(exfalso;omega)
noncomputable def rule_Is_h0 (x1:Int) (x2:Int) (x3:Int) (x4:Int) (x5:Int) (x6:Int) (x7:Int) (x8:Int) (x9:Int) (x10:Int) (x11:Int) (x12:Int) (x13:Int):SC:=
 ⟨[⟨212,slo 39 [(1,I x1),(2, .ptr 0 0),(5, .ptr 1 0),(7,I x2)],[.code (bodyAt Tryz.f212 [1,1,1,0,1,0,0]), .inLoop (bodyAt Tryz.f212 [1,1,1,0,1,0,0]), .inBlock 0, .code (bodyAt Tryz.f212 [1,1,1,1])],{}⟩],[some (.box true [I x3,I x4,I x5,I x6,I x7,I x8,I x9,I x10]),some (.box true [I x11,I x12,I x13])]⟩
theorem rule_Is_w0 {X:Cx} {r:Rl} {a1:Int} {res:SV} (hX:Fi X 212 [] (res) []) (H:((cE a1)≠0→(B false:SV)=res)∧((cE a1)=0→Ir ((cY a1)-1)∧Ok X (rule_Is_h0 a1 ((cY a1)-1) r.kind r.mon r.day r.k r.off r.sh r.fr r.to (cY a1) (cM a1) (cD a1)))):
  Ok X (entry Tryz.prog 212 [.agg [I r.kind,I r.mon,I r.day,I r.k,I r.off,I r.sh,I r.fr,I r.to],I a1] []):=by
 obtain⟨L0,K0⟩:=H
 refine hX.go [c_ [] (cOfT a1)] ?_
 by_cases h0:(cE a1)=0
 ·obtain⟨h1,k⟩:=K0 h0
  exact hX.h 12 [f_ (bne_eq_false_iff_eq.2 h0),q_ h1] (oldM 2) k
 ·have HE:=L0 h0
  exact(hX.to HE.symm).e [t_ (bne_iff_ne.2 h0)]
theorem rule_Is_w1 {X:Cx} {x1 x2 x3 x4 x5 x6 x7 x8 x9 x10 x11 x12 x13:Int} {res:SV} (hX:Fi X 212 [] (res) []) (H:Ir (x11+1)∧(x2≤(x11+1)→mayRB (Rl.mk x3 x4 x5 x6 x7 x8 x9 x10)=true∧((nzB (inV (Rl.mk x3 x4 x5 x6 x7 x8 x9 x10) x2))=true→((inV (Rl.mk x3 x4 x5 x6 x7 x8 x9 x10) x2)=x1→(B true:SV)=res)∧((inV (Rl.mk x3 x4 x5 x6 x7 x8 x9 x10) x2)≠x1→Ir (x2+1)∧Ok X (rule_Is_h0 x1 (x2+1) x3 x4 x5 x6 x7 x8 x9 x10 x11 x12 x13)))∧((nzB (inV (Rl.mk x3 x4 x5 x6 x7 x8 x9 x10) x2))=false→Ir (x2+1)∧Ok X (rule_Is_h0 x1 (x2+1) x3 x4 x5 x6 x7 x8 x9 x10 x11 x12 x13)))∧(¬x2≤(x11+1)→(B false:SV)=res)):
  Ok X (rule_Is_h0 x1 x2 x3 x4 x5 x6 x7 x8 x9 x10 x11 x12 x13):=by
 obtain⟨h0,L1,K1⟩:=H
 refine hX.go [q_ h0] ?_
 by_cases h1:x2≤(x11+1)
 ·obtain⟨h2,L3,K3⟩:=L1 h1
  refine hX.go [t_ (dt h1),c_ [] (show S 237 [.agg [I x3,I x4,I x5,I x6,I x7,I x8,I x9,I x10],I x2] [] (.tup [I (inV (Rl.mk x3 x4 x5 x6 x7 x8 x9 x10) x2),B (nzB (inV (Rl.mk x3 x4 x5 x6 x7 x8 x9 x10) x2))]) []from pIn h2)] ?_
  rcases bcase (nzB (inV (Rl.mk x3 x4 x5 x6 x7 x8 x9 x10) x2))with h3|h3
  ·obtain⟨L4,K4⟩:=L3 h3
   refine hX.go [n_ 4 (t_ h3)] ?_
   by_cases h4:(inV (Rl.mk x3 x4 x5 x6 x7 x8 x9 x10) x2)=x1
   ·have HE:=L4 h4
    exact(hX.to HE.symm).e [t_ (beq_iff_eq.2 h4)]
   ·obtain⟨h5,k⟩:=K4 h4
    exact hX.h 9 [f_ (beq_eq_false_iff_ne.2 h4),q_ h5] (oldM 2) k
  ·obtain⟨h4,k⟩:=K3 h3
   exact hX.h 14 [n_ 4 (f_ h3),f_ rf,q_ h4] (oldM 2) k
 ·have HE:=K1 h1
  exact(hX.to HE.symm).e [f_ (df h1)]
noncomputable def demurrageref12_Is_h0 (x1:Int) (x2:Int) (x3:Int) (x4:Int) (x5:Int) (x6:Int) (x7:Int) (x8:Int) (x9:Int) (x10:Int) (x11:Int) (x12:Int) (x13:Int):SC:=
 ⟨[⟨129,slo 39 [(1,I x1),(2, .ptr 0 0),(5, .ptr 1 0),(7,I x2)],[.code (bodyAt Tryz.f129 [1,1,1,0,1,0,0]), .inLoop (bodyAt Tryz.f129 [1,1,1,0,1,0,0]), .inBlock 0, .code (bodyAt Tryz.f129 [1,1,1,1])],{}⟩],[some (.box true [I x3,I x4,I x5,I x6,I x7,I x8,I x9,I x10]),some (.box true [I x11,I x12,I x13])]⟩
theorem demurrageref12_Is_w0 {X:Cx} {r:Rl} {a1:Int} {res:SV} (hX:Fi X 129 [] (res) []) (H:((cE a1)≠0→(B false:SV)=res)∧((cE a1)=0→Ir ((cY a1)-1)∧Ok X (demurrageref12_Is_h0 a1 ((cY a1)-1) r.kind r.mon r.day r.k r.off r.sh r.fr r.to (cY a1) (cM a1) (cD a1)))):
  Ok X (entry Tryz.prog 129 [.agg [I r.kind,I r.mon,I r.day,I r.k,I r.off,I r.sh,I r.fr,I r.to],I a1] []):=by
 obtain⟨L0,K0⟩:=H
 refine hX.go [c_ [] (rOfT a1)] ?_
 by_cases h0:(cE a1)=0
 ·obtain⟨h1,k⟩:=K0 h0
  exact hX.h 12 [f_ (bne_eq_false_iff_eq.2 h0),q_ h1] (oldM 2) k
 ·have HE:=L0 h0
  exact(hX.to HE.symm).e [t_ (bne_iff_ne.2 h0)]
theorem demurrageref12_Is_w1 {X:Cx} {x1 x2 x3 x4 x5 x6 x7 x8 x9 x10 x11 x12 x13:Int} {res:SV} (hX:Fi X 129 [] (res) []) (H:Ir (x11+1)∧(x2≤(x11+1)→mayRB (Rl.mk x3 x4 x5 x6 x7 x8 x9 x10)=true∧((nzB (inV (Rl.mk x3 x4 x5 x6 x7 x8 x9 x10) x2))=true→((inV (Rl.mk x3 x4 x5 x6 x7 x8 x9 x10) x2)=x1→(B true:SV)=res)∧((inV (Rl.mk x3 x4 x5 x6 x7 x8 x9 x10) x2)≠x1→Ir (x2+1)∧Ok X (demurrageref12_Is_h0 x1 (x2+1) x3 x4 x5 x6 x7 x8 x9 x10 x11 x12 x13)))∧((nzB (inV (Rl.mk x3 x4 x5 x6 x7 x8 x9 x10) x2))=false→Ir (x2+1)∧Ok X (demurrageref12_Is_h0 x1 (x2+1) x3 x4 x5 x6 x7 x8 x9 x10 x11 x12 x13)))∧(¬x2≤(x11+1)→(B false:SV)=res)):
  Ok X (demurrageref12_Is_h0 x1 x2 x3 x4 x5 x6 x7 x8 x9 x10 x11 x12 x13):=by
 obtain⟨h0,L1,K1⟩:=H
 refine hX.go [q_ h0] ?_
 by_cases h1:x2≤(x11+1)
 ·obtain⟨h2,L3,K3⟩:=L1 h1
  refine hX.go [t_ (dt h1),c_ [] (show S 165 [.agg [I x3,I x4,I x5,I x6,I x7,I x8,I x9,I x10],I x2] [] (.tup [I (inV (Rl.mk x3 x4 x5 x6 x7 x8 x9 x10) x2),B (nzB (inV (Rl.mk x3 x4 x5 x6 x7 x8 x9 x10) x2))]) []from rIn h2)] ?_
  rcases bcase (nzB (inV (Rl.mk x3 x4 x5 x6 x7 x8 x9 x10) x2))with h3|h3
  ·obtain⟨L4,K4⟩:=L3 h3
   refine hX.go [n_ 4 (t_ h3)] ?_
   by_cases h4:(inV (Rl.mk x3 x4 x5 x6 x7 x8 x9 x10) x2)=x1
   ·have HE:=L4 h4
    exact(hX.to HE.symm).e [t_ (beq_iff_eq.2 h4)]
   ·obtain⟨h5,k⟩:=K4 h4
    exact hX.h 9 [f_ (beq_eq_false_iff_ne.2 h4),q_ h5] (oldM 2) k
  ·obtain⟨h4,k⟩:=K3 h3
   exact hX.h 14 [n_ 4 (f_ h3),f_ rf,q_ h4] (oldM 2) k
 ·have HE:=K1 h1
  exact(hX.to HE.symm).e [f_ (df h1)]
theorem pIs_st {X:Cx} {r:Rl} {n y Y M D:Int} {res:SV} (hX:Fi X 212 [] res []) (hm:mayRB r=true) (hn:1≤n) (hy:0≤y∧y≤100000) (hY:0≤Y∧Y≤10000) (hle:y≤Y+1) (k1:inV r y=n→B true=res) (k2:inV r y≠n→Ok X (rule_Is_h0 n (y+1) r.kind r.mon r.day r.k r.off r.sh r.fr r.to Y M D)):
  Ok X (rule_Is_h0 n y r.kind r.mon r.day r.k r.off r.sh r.fr r.to Y M D):=by
 refine rule_Is_w1 hX ⟨irT (by omega),fun _=>⟨hm,fun c=>⟨fun d=>k1 d,fun d=>⟨irT (by omega),k2 d⟩⟩,fun c=>⟨irT (by omega),k2 ?_⟩⟩,fun c=>absurd hle c⟩
 have:=nz_f.1 c
 intro d;rw[show inV r y=0 from this]at d;omega
theorem pIs {r:Rl} {n:Int} (hm:mayRB r=true):S 212 [.agg (rlC r),I n] [] (B (isR r n)) []:=by
 refine SCall.st fun X hX=>rule_Is_w0 hX ⟨fun c=> ?_,fun c=> ?_⟩
 ·rw[show isR r n=false by unfold isR;rw[show isDay n=false by cases h:isDay n;rfl;exact absurd (cE_0.2 h) c,Bool.false_and]]
 ·have hd:=cE_0.1 c
  have hn:=isDay_iff.1 hd
  obtain⟨-, -, -,y1,y2, -⟩:=civ_ok hd
  have e:isR r n=(decide (inV r (cY n-1)=n)||(decide (inV r (cY n)=n)||decide (inV r (cY n+1)=n))):=by unfold isR;rw[hd,Bool.true_and]
  rw[e]at hX
  refine⟨irT (by omega),pIs_st hX hm (by omega) (by omega) (by omega) (by omega) (fun d=>by rw[decide_eq_true d,Bool.true_or]) (fun d=> ?_)⟩
  rw[show cY n-1+1=cY n by omega]
  refine pIs_st hX hm (by omega) (by omega) (by omega) (by omega) (fun d'=>by rw[decide_eq_true d',Bool.true_or,Bool.or_true]) (fun d'=> ?_)
  refine pIs_st hX hm (by omega) (by omega) (by omega) (by omega) (fun d''=>by rw[decide_eq_true d'',Bool.or_true,Bool.or_true]) (fun d''=> ?_)
  refine rule_Is_w1 hX ⟨irT (by omega),fun c=>absurd c (by omega),fun _=> ?_⟩
  rw[decide_eq_false d,decide_eq_false d',decide_eq_false d''];rfl
theorem rIs12_st {X:Cx} {r:Rl} {n y Y M D:Int} {res:SV} (hX:Fi X 129 [] res []) (hm:mayRB r=true) (hn:1≤n) (hy:0≤y∧y≤100000) (hY:0≤Y∧Y≤10000) (hle:y≤Y+1) (k1:inV r y=n→B true=res) (k2:inV r y≠n→Ok X (demurrageref12_Is_h0 n (y+1) r.kind r.mon r.day r.k r.off r.sh r.fr r.to Y M D)):
  Ok X (demurrageref12_Is_h0 n y r.kind r.mon r.day r.k r.off r.sh r.fr r.to Y M D):=by
 refine demurrageref12_Is_w1 hX ⟨irT (by omega),fun _=>⟨hm,fun c=>⟨fun d=>k1 d,fun d=>⟨irT (by omega),k2 d⟩⟩,fun c=>⟨irT (by omega),k2 ?_⟩⟩,fun c=>absurd hle c⟩
 have:=nz_f.1 c
 intro d;rw[show inV r y=0 from this]at d;omega
theorem rIs12 {r:Rl} {n:Int} (hm:mayRB r=true):S 129 [.agg (rlC r),I n] [] (B (isR r n)) []:=by
 refine SCall.st fun X hX=>demurrageref12_Is_w0 hX ⟨fun c=> ?_,fun c=> ?_⟩
 ·rw[show isR r n=false by unfold isR;rw[show isDay n=false by cases h:isDay n;rfl;exact absurd (cE_0.2 h) c,Bool.false_and]]
 ·have hd:=cE_0.1 c
  have hn:=isDay_iff.1 hd
  obtain⟨-, -, -,y1,y2, -⟩:=civ_ok hd
  have e:isR r n=(decide (inV r (cY n-1)=n)||(decide (inV r (cY n)=n)||decide (inV r (cY n+1)=n))):=by unfold isR;rw[hd,Bool.true_and]
  rw[e]at hX
  refine⟨irT (by omega),rIs12_st hX hm (by omega) (by omega) (by omega) (by omega) (fun d=>by rw[decide_eq_true d,Bool.true_or]) (fun d=> ?_)⟩
  rw[show cY n-1+1=cY n by omega]
  refine rIs12_st hX hm (by omega) (by omega) (by omega) (by omega) (fun d'=>by rw[decide_eq_true d',Bool.true_or,Bool.or_true]) (fun d'=> ?_)
  refine rIs12_st hX hm (by omega) (by omega) (by omega) (by omega) (fun d''=>by rw[decide_eq_true d'',Bool.or_true,Bool.or_true]) (fun d''=> ?_)
  refine demurrageref12_Is_w1 hX ⟨irT (by omega),fun c=>absurd c (by omega),fun _=> ?_⟩
  rw[decide_eq_false d,decide_eq_false d',decide_eq_false d''];rfl
theorem demurrageref12_May_w {r:Rl} {res:SV} (H:(r.kind<0→(B false:SV)=res)∧(¬r.kind<0→(r.kind>3→(B false:SV)=res)∧(¬r.kind>3→(r.sh<0→(B false:SV)=res)∧(¬r.sh<0→(r.sh>2→(B false:SV)=res)∧(¬r.sh>2→(r.fr<1→(B false:SV)=res)∧(¬r.fr<1→(r.fr>r.to→(B false:SV)=res)∧(¬r.fr>r.to→(r.to>9999→(B false:SV)=res)∧(¬r.to>9999→(r.kind=3→(B (witB r.off (-100) 250):SV)=res)∧(r.kind≠3→(r.mon<1→(B false:SV)=res)∧(¬r.mon<1→(r.mon>12→(B false:SV)=res)∧(¬r.mon>12→(r.kind=0→(0:Int)≤2000∧(B (witB r.day 1 (len 2000 r.mon)):SV)=res)∧(r.kind≠0→((witB r.day 0 6)=true→(r.kind=2→(B true:SV)=res)∧(r.kind≠2→(B (witB r.k 1 5):SV)=res))∧((witB r.day 0 6)=false→(B false:SV)=res))))))))))))):
  S 48 [.agg [I r.kind,I r.mon,I r.day,I r.k,I r.off,I r.sh,I r.fr,I r.to]] [] (res) []:=by
 refine SCall.st fun X hX=> ?_
 obtain⟨L0,K0⟩:=H
 by_cases h0:r.kind<0
 ·have HE:=L0 h0
  exact(hX.to HE.symm).e [n_ 4 (t_ (dt h0)),n_ 23 (t_ rt)]
 ·obtain⟨L1,K1⟩:=K0 h0
  refine hX.go [n_ 4 (f_ (df h0))] ?_
  by_cases h1:r.kind>3
  ·have HE:=L1 h1
   exact(hX.to HE.symm).e [n_ 4 (t_ (dt h1)),n_ 19 (t_ rt)]
  ·obtain⟨L2,K2⟩:=K1 h1
   refine hX.go [n_ 4 (f_ (df h1))] ?_
   by_cases h2:r.sh<0
   ·have HE:=L2 h2
    exact(hX.to HE.symm).e [n_ 4 (t_ (dt h2)),n_ 15 (t_ rt)]
   ·obtain⟨L3,K3⟩:=K2 h2
    refine hX.go [n_ 4 (f_ (df h2))] ?_
    by_cases h3:r.sh>2
    ·have HE:=L3 h3
     exact(hX.to HE.symm).e [n_ 4 (t_ (dt h3)),n_ 11 (t_ rt)]
    ·obtain⟨L4,K4⟩:=K3 h3
     refine hX.go [n_ 4 (f_ (df h3))] ?_
     by_cases h4:r.fr<1
     ·have HE:=L4 h4
      exact(hX.to HE.symm).e [n_ 6 (t_ (dt h4)),n_ 5 (t_ rt)]
     ·obtain⟨L5,K5⟩:=K4 h4
      refine hX.go [n_ 6 (f_ (df h4))] ?_
      by_cases h5:r.fr>r.to
      ·have HE:=L5 h5
       exact(hX.to HE.symm).e [n_ 4 (t_ (dt h5)),t_ rt]
      ·obtain⟨L6,K6⟩:=K5 h5
       refine hX.go [n_ 4 (f_ (df h5))] ?_
       by_cases h6:r.to>9999
       ·have HE:=L6 h6
        exact(hX.to HE.symm).e [t_ (dt h6)]
       ·obtain⟨L7,K7⟩:=K6 h6
        refine hX.go [f_ (df h6)] ?_
        by_cases h7:r.kind=3
        ·have HE:=L7 h7
         exact(hX.to HE.symm).e [t_ (beq_iff_eq.2 h7),c_ [] (rIn12 r.off (-100) 250)]
        ·obtain⟨L8,K8⟩:=K7 h7
         refine hX.go [f_ (beq_eq_false_iff_ne.2 h7)] ?_
         by_cases h8:r.mon<1
         ·have HE:=L8 h8
          exact(hX.to HE.symm).e [n_ 4 (t_ (dt h8)),t_ rt]
         ·obtain⟨L9,K9⟩:=K8 h8
          refine hX.go [n_ 4 (f_ (df h8))] ?_
          by_cases h9:r.mon>12
          ·have HE:=L9 h9
           exact(hX.to HE.symm).e [t_ (dt h9)]
          ·obtain⟨L10,K10⟩:=K9 h9
           refine hX.go [f_ (df h9)] ?_
           by_cases h10:r.kind=0
           ·obtain⟨h11,HE⟩:=L10 h10
            exact(hX.to HE.symm).e [t_ (beq_iff_eq.2 h10),d_ 5,c_ [] (show S 74 [I 2000,I r.mon] [] (I (len 2000 r.mon)) []from rLength h11),c_ [] (rIn12 r.day 1 (len 2000 r.mon))]
           ·obtain⟨L11,K11⟩:=K10 h10
            refine hX.go [f_ (beq_eq_false_iff_ne.2 h10),c_ [] (rIn12 r.day 0 6)] ?_
            rcases bcase (witB r.day 0 6)with h11|h11
            ·obtain⟨L12,K12⟩:=L11 h11
             refine hX.go [n_ 4 (t_ h11)] ?_
             by_cases h12:r.kind=2
             ·have HE:=L12 h12
              exact(hX.to HE.symm).e [n_ 3 (t_ (beq_iff_eq.2 h12)),t_ h11,t_ (beq_iff_eq.2 h12),t_ h11]
             ·have HE:=K12 h12
              exact(hX.to HE.symm).e [n_ 3 (f_ (beq_eq_false_iff_ne.2 h12)),c_ [] (rIn12 r.k 1 5),t_ h11,f_ (beq_eq_false_iff_ne.2 h12),t_ h11]
            ·have HE:=K11 h11
             exact(hX.to HE.symm).e [n_ 6 (f_ h11)]
theorem rMay12 (r:Rl):S 48 [.agg (rlC r)] [] (B (mayRB r)) []:=by
 have no: ¬RlOk r→B false=B (mayRB r):=fun c=>by rw[show mayRB r=false from decide_eq_false c]
 have eq: ∀ {b:Bool},(b=true↔RlOk r)→B b=B (mayRB r):=fun {b} h=>by
  congr 1
  cases hb:b
  ·exact(decide_eq_false (fun c=>by rw[h.2 c]at hb;cases hb)).symm
  ·exact(decide_eq_true (h.1 hb)).symm
 refine demurrageref12_May_w ⟨fun c=>no ?_,fun c1=>⟨fun c=>no ?_,fun c2=>⟨fun c=>no ?_,fun c3=>⟨fun c=>no ?_,fun c4=>⟨fun c=>no ?_,fun c5=>⟨fun c=>no ?_,fun c6=>⟨fun c=>no ?_,fun c7=>⟨fun k3=>eq ?_,fun k3=>⟨fun c=>no ?_,fun c8=>⟨fun c=>no ?_,fun c9=>⟨fun k0=>⟨by decide,eq ?_⟩,fun k0=>⟨fun c=>⟨fun k2=>eq ?_,fun k2=>eq ?_⟩,fun c=>no (fun z=>by have:=wit_f.1 c;have q:=(z.2.2.2.2.2.2.2.2 k3).2.2.2 k0;omega)⟩⟩⟩⟩⟩⟩⟩⟩⟩⟩⟩⟩
 all_goals (try rw[wit_t]);(try rw[wit_t]at*);unfold RlOk
 all_goals first|omega|(constructor<;>intro _<;>first|trivial|(refine⟨by omega,by omega,by omega,by omega,by omega,by omega,by omega,fun z=>by omega,fun z=>⟨by omega,by omega,fun z=>by omega,fun z=>⟨by omega,by omega,by omega⟩⟩⟩)|omega)
end Go.Proofs.YtelidogcomffkaaGreatDoor
