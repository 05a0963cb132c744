import Derived.Test.YtelidogcomffkaaGreatDoorRgt
import Derived.Test.YtelidogcomffkaaGreatDoorProg
import Derived.KernelRfl
import Derived.Laws.Externs
set_option linter.unusedSectionVars false
set_option linter.unusedSimpArgs false
set_option linter.unusedVariables false
set_option maxRecDepth 100000
namespace Go.Proofs.YtelidogcomffkaaGreatDoor
open Go Go.Sx
variable [Env]
def lp (y:Int):Bool:=decide (y%4=0∧(y%100≠0∨y%400=0))
def len (y m:Int):Int:=if m<1∨m>12 then 0 else if m=2∧lp y=true then 29 else lens m.toNat
def cq (y:Int):Nat→Int
 |0=>0
 |m+1=>cq y m+len y ((m+1:Nat):Int)
def bY (y:Int):Int:=365*(y-1)+(y-1)/4-(y-1)/100+(y-1)/400
theorem Bw (i:Nat):lens i≤31∧0≤lens i:=by
 match i with
 |0|1|2|3|4|5|6|7|8|9|10|11|12=>exact⟨by decide,by decide⟩
 |n+13=>exact⟨by simp[lens],by simp[lens]⟩
theorem ib (y m:Int):len y m≤31∧0≤len y m:=by
 have:=Bw m.toNat
 grind [len]
theorem jH (y:Int): ∀ m:Nat,cq y m≤31*(m:Int)∧0≤cq y m
 |0=>by simp[cq]
 |m+1=>by
  have h1:=jH y m
  have h2:=ib y ((m+1:Nat):Int)
  unfold cq;omega
theorem wM (y:Int):cq y 12=365+if lp y=true then 1 else 0:=by
 cases h:lp y<;>simp[cq,len,h,lens]
def q4 (mx d n:Int):Int:=if mx<n/d then mx else n/d
theorem rD (mx d n:Int):q4 mx d n≤mx∧q4 mx d n≤n/d∧(q4 mx d n=mx∨q4 mx d n=n/d):=by unfold q4;split<;>omega
def fc (n:Int):Int×Int:=
 let k1:=q4 24 146097 (n-1)
 let n1:=(n-1)-k1*146097
 let k2:=q4 3 36524 n1
 let n2:=n1-k2*36524
 let k3:=q4 24 1461 n2
 let n3:=n2-k3*1461
 let k4:=q4 3 365 n3
 (1+k1*400+k2*100+k3*4+k4*1,n3-k4*365)
theorem CH {k1 k2 k3 k4:Int} (h2:0≤k2∧k2≤3) (h3:0≤k3∧k3≤24) (h4:0≤k4∧k4≤3):bY (400*k1+100*k2+4*k3+k4+1)=146097*k1+36524*k2+1461*k3+365*k4:=by
 have e1:(400*k1+100*k2+4*k3+k4+1-1)/4=100*k1+25*k2+k3:=by omega
 have e2:(400*k1+100*k2+4*k3+k4+1-1)/100=4*k1+k2:=by omega
 grind [bY]
theorem Ft {n n1 n2 n3 k1 k2 k3 k4:Int} (h1:1≤n) (h2:n≤3652059) (g1:k1≤24∧k1≤(n-1)/146097∧(k1=24∨k1=(n-1)/146097)) (hn1:n-1-k1*146097=n1)
  (g2:k2≤3∧k2≤n1/36524∧(k2=3∨k2=n1/36524)) (hn2:n1-k2*36524=n2) (g3:k3≤24∧k3≤n2/1461∧(k3=24∨k3=n2/1461)) (hn3:n2-k3*1461=n3)
  (g4:k4≤3∧k4≤n3/365∧(k4=3∨k4=n3/365)):
  1≤1+k1*400+k2*100+k3*4+k4*1∧1+k1*400+k2*100+k3*4+k4*1≤9999∧0≤n3-k4*365∧n3-k4*365<cq (1+k1*400+k2*100+k3*4+k4*1) 12∧
   n=bY (1+k1*400+k2*100+k3*4+k4*1)+(n3-k4*365)+1:=by
 rw[wM]
 have a1:0≤k1∧k1≤24∧0≤n1∧n1<146097:=by omega
 have a2:0≤k2∧k2≤3∧0≤n2∧n2≤36524∧(k2<3→n2<36524):=by omega
 have a3:0≤k3∧k3≤24∧0≤n3∧n3<1461∧(k3=24→k2<3→n3<1460):=by omega
 have a4:0≤k4∧k4≤3∧0≤n3-k4*365∧n3-k4*365≤365∧(n3-k4*365=365→k4=3∧n3=1460):=by omega
 grind [bY,CH,lp]
theorem qm {n:Int} (h1:1≤n) (h2:n≤3652059):1≤(fc n).1∧(fc n).1≤9999∧0≤(fc n).2∧(fc n).2<cq (fc n).1 12∧n=bY (fc n).1+(fc n).2+1:=
 Ft h1 h2 (rD _ _ _) rfl (rD _ _ _) rfl (rD _ _ _) rfl (rD _ _ _)
def ofMon (y:Int):Nat→Nat→Int→Int×Int
 |0,m,r=>((m:Int),r+1)
 |j+1,m,r=>if r≥len y (m:Int)then ofMon y j (m+1) (r-len y (m:Int))else((m:Int),r+1)
def dT (n:Int):Int×Int×Int:=((fc n).1,ofMon (fc n).1 12 1 (fc n).2)
theorem yj {y:Int}: ∀ {j m:Nat} {r:Int},j+m=13→1≤m→0≤r→r<cq y 12-cq y (m-1)→
  ∃ M:Nat,(ofMon y j m r).1=(M:Int)∧m≤M∧M≤12∧1≤(ofMon y j m r).2∧(ofMon y j m r).2≤len y (M:Int)∧cq y (M-1)+(ofMon y j m r).2=cq y (m-1)+r+1
 |0,m,r,hj,hm,hr,hl=>by
  grind
 |j+1,m,r,hj,hm,hr,hl=>by
  have e:cq y m=cq y (m-1)+len y (m:Int):=by
   obtain⟨k,rfl⟩: ∃ k,m=k+1:=⟨m-1,by omega⟩
   rfl
  unfold ofMon
  split
  ·rename_i h
   obtain⟨M,h1,h2,h3,h4,h5,h6⟩:= @yj y j (m+1) (r-len y (m:Int)) (by omega) (by omega) (by omega) (by simp only[Nat.add_sub_cancel];omega)
   grind
  grind
theorem yL {n:Int} (h1:1≤n) (h2:n≤3652059): ∃ M:Nat,(dT n).2.1=(M:Int)∧1≤M∧M≤12∧1≤(dT n).1∧(dT n).1≤9999∧1≤(dT n).2.2∧(dT n).2.2≤len (dT n).1 (M:Int)∧
  n=bY (dT n).1+cq (dT n).1 (M-1)+(dT n).2.2:=by
 obtain⟨a1,a2,a3,a4,a5⟩:=qm h1 h2
 obtain⟨M,b1,b2,b3,b4,b5,b6⟩:= @yj _ (fc n).1 12 1 (fc n).2 rfl (by omega) a3 (by simpa[cq]using a4)
 refine⟨M,b1,b2,b3,a1,a2,b4,b5, ?_⟩
 have:cq (fc n).1 (1-1)=0:=rfl
 show n=bY (fc n).1+cq (fc n).1 (M-1)+(ofMon (fc n).1 12 1 (fc n).2).2
 omega
theorem w_ {a1:Int} (h0:(0:Int)≤a1) (h1:(a1%4)=0) (h2:(a1%100)≠0):
  S 121 [I a1] [] (B true) []:=
 ab.path 21 [tb,tb,tb,tb,tb,tb,tb,tb,tb,tb] [] 0 (by kernel_rfl) rfl (by exact trivial) (ca h0 (ca (show(0:Int)<4 from by decide) (ca (beq_iff_eq.2 h1) (ca (beq_iff_eq.2 h1) (ca h0 (ca (show(0:Int)<100 from by decide) (ca (beq_iff_eq.2 h1) (ca (beq_iff_eq.2 h1) (ca (bne_iff_ne.2 h2) (ca (bne_iff_ne.2 h2) (ca (bne_iff_ne.2 h2) (ca (beq_iff_eq.2 h1) (ca (bne_iff_ne.2 h2) (ca (beq_iff_eq.2 h1) na))))))))))))))
theorem w9 {a1:Int} (h0:(0:Int)≤a1) (h1:(a1%4)=0) (h2:(a1%100)=0):
  S 121 [I a1] [] (B ((a1%400)==0)) []:=
 ab.path 21 [tb,tb,tb,tb,fb,fb,fb,tb,fb,tb] [] 0 (by kernel_rfl) rfl (by exact trivial) (ca h0 (ca (show(0:Int)<4 from by decide) (ca (beq_iff_eq.2 h1) (ca (beq_iff_eq.2 h1) (ca h0 (ca (show(0:Int)<100 from by decide) (ca (beq_iff_eq.2 h1) (ca (beq_iff_eq.2 h1) (ca (bne_eq_false_iff_eq.2 h2) (ca (bne_eq_false_iff_eq.2 h2) (ca h0 (ca (show(0:Int)<400 from by decide) (ca (bne_eq_false_iff_eq.2 h2) (ca (beq_iff_eq.2 h1) (ca (bne_eq_false_iff_eq.2 h2) (ca (beq_iff_eq.2 h1) na))))))))))))))))
theorem w8 {a1:Int} (h0:(0:Int)≤a1) (h1:(a1%4)≠0):
  S 121 [I a1] [] (B false) []:=
 ab.path 21 [fb,fb,fb,fb,fb,fb] [] 0 (by kernel_rfl) rfl (by exact trivial) (ca h0 (ca (show(0:Int)<4 from by decide) (ca (beq_eq_false_iff_ne.2 h1) (ca (beq_eq_false_iff_ne.2 h1) (ca (beq_eq_false_iff_ne.2 h1) (ca (beq_eq_false_iff_ne.2 h1) (ca (beq_eq_false_iff_ne.2 h1) (ca (beq_eq_false_iff_ne.2 h1) na))))))))
theorem E_ {y:Int} (h:0≤y):ab Tryz.prog GL 121 [I y] [] (B (lp y)) []:=by
 unfold lp
 grind [w_,w9,w8]
theorem uv {a1 a2:Int} (h0:a2<1):
  S 88 [I a1,I a2] [] (I 0) []:=
 ab.path 19 [tb,tb,tb,tb] [] 0 (by kernel_rfl) rfl (by exact trivial) (ca (dt h0) (ca (dt h0) (ca (dt h0) (ca rt na))))
theorem uu {a1 a2:Int} (h0: ¬a2<1) (h1:a2>12):
  S 88 [I a1,I a2] [] (I 0) []:=
 ab.path 19 [fb,fb,fb,tb] [] 0 (by kernel_rfl) rfl (by exact trivial) (ca (df h0) (ca (df h0) (ca (df h0) (ca (dt h1) na))))
theorem ur {a1 a2:Int} {r3:Bool} (h0: ¬a2<1) (h1: ¬a2>12) (h2:a2=2) (h3:S 121 [I a1] [] (B r3) []) (h4:r3=true) (h5:(0:Int)≤a2∧a2<((13:Nat):Int)) (h6:aj .i64 ((lens a2.toNat)+1)):
  S 88 [I a1,I a2] [] (I ((lens a2.toNat)+1)) []:=
 ab.path 35 [fb,fb,fb,fb,tb,tb, .call [] (B r3) [],tb,tb] [] 0 (by kernel_rfl) rfl (by exact trivial) (ca (df h0) (ca (df h0) (ca (df h0) (ca (df h1) (ca (beq_iff_eq.2 h2) (ca (beq_iff_eq.2 h2) (ca h3 (ca (beq_iff_eq.2 h2) (ca h4 (ca h5 (ca h5 (ca h6 na))))))))))))
theorem uq {a1 a2:Int} {r3:Bool} (h0: ¬a2<1) (h1: ¬a2>12) (h2:a2=2) (h3:S 121 [I a1] [] (B r3) []) (h4:r3=false) (h5:(0:Int)≤a2∧a2<((13:Nat):Int)):
  S 88 [I a1,I a2] [] (I (lens a2.toNat)) []:=
 ab.path 35 [fb,fb,fb,fb,tb,tb, .call [] (B r3) [],tb,fb] [] 0 (by kernel_rfl) rfl (by exact trivial) (ca (df h0) (ca (df h0) (ca (df h0) (ca (df h1) (ca (beq_iff_eq.2 h2) (ca (beq_iff_eq.2 h2) (ca h3 (ca (beq_iff_eq.2 h2) (ca h4 (ca h5 (ca h5 na)))))))))))
theorem uo {a1 a2:Int} (h0: ¬a2<1) (h1: ¬a2>12) (h2:a2≠2) (h3:(0:Int)≤a2∧a2<((13:Nat):Int)):
  S 88 [I a1,I a2] [] (I (lens a2.toNat)) []:=
 ab.path 35 [fb,fb,fb,fb,fb,fb,fb,fb] [] 0 (by kernel_rfl) rfl (by exact trivial) (ca (df h0) (ca (df h0) (ca (df h0) (ca (df h1) (ca (beq_eq_false_iff_ne.2 h2) (ca (beq_eq_false_iff_ne.2 h2) (ca (beq_eq_false_iff_ne.2 h2) (ca rf (ca h3 (ca h3 na))))))))))
theorem kq {y m:Int} (h:0≤y):ab Tryz.prog GL 88 [I y,I m] [] (I (len y m)) []:=by
 unfold len
 have hl:=Bw m.toNat
 split
 ·grind [uv,uu]
 ·by_cases h2:m=2
  ·subst h2
   cases hp:lp y
   ·rw[if_neg (by simp)]
    exact uq (by omega) (by omega) rfl (E_ h) hp (by omega)
   ·rw[if_pos (by simp)]
    exact ur (by omega) (by omega) rfl (E_ h) hp (by omega) (by decide)
  grind [uo]
theorem Az {a1:Int} (h0:a1<1):
  S 60 [I a1] [] (.af [.agg [I 0,I 0,I 0],I 3]) []:=
 ab.path 22 [tb,tb,tb,tb] [] 1 (by kernel_rfl) rfl (by exact trivial) (ca (dt h0) (ca (dt h0) (ca (dt h0) (ca rt na))))
theorem Ay {a1:Int} (h0: ¬a1<1) (h1:a1>3652059):
  S 60 [I a1] [] (.af [.agg [I 0,I 0,I 0],I 3]) []:=
 ab.path 22 [fb,fb,fb,tb] [] 1 (by kernel_rfl) rfl (by exact trivial) (ca (df h0) (ca (df h0) (ca (df h0) (ca (dt h1) na))))
noncomputable def rP (x1:Int) (x2:Int) (x3:Int) (x4:Int) (x5:Int):SC:=
 ⟨[⟨60,bJ 63 [(0,I x1),(2, .ptr 0 0),(4,I x2),(22, .agg [I 146097,I 400,I 24,I 36524,I 100,I 3,I 1461,I 4,I 24,I 365,I 1,I 3]),(23,I 0)],[.code (aa Tryz.f60 [1,1,1,1,0,1,0,0]), .inLoop (aa Tryz.f60 [1,1,1,1,0,1,0,0]), .inBlock 0, .code (aa Tryz.f60 [1,1,1,1,1])],{}⟩],[some (.box true [I x3,I x4,I x5])]⟩
theorem Ax {X:Cx} {res:SV} {new:List (Option Vw)} {a1:Int} (hX:Fi X 60 [] res new) (h0: ¬a1<1) (h1: ¬a1>3652059) (h2:aj .i64 (a1-1)) (k:Ok X (rP (a1-1) 1 0 0 0)):
  Ok X (entry Tryz.prog 60 [I a1] []):=
 Ok.bg 39 [fb,fb,fb,fb] [cN 63 [0,2,4,22,23]] [.ae 0] 0 hX.P hX.gl hX.n0 (by kernel_rfl) (by kernel_rfl) (by exact⟨rfl,trivial⟩) (ca (df h0) (ca (df h0) (ca (df h0) (ca (df h1) (ca h2 na))))) k
noncomputable def oh (x1:Int) (x2:Int) (x3:Int) (x4:Int) (x5:Int):SC:=
 ⟨[⟨60,bJ 63 [(0,I x1),(2, .ptr 0 0),(4,I x2),(22, .agg [I 146097,I 400,I 24,I 36524,I 100,I 3,I 1461,I 4,I 24,I 365,I 1,I 3]),(23,I 1)],[.code (aa Tryz.f60 [1,1,1,1,0,1,0,0]), .inLoop (aa Tryz.f60 [1,1,1,1,0,1,0,0]), .inBlock 0, .code (aa Tryz.f60 [1,1,1,1,1])],{}⟩],[some (.box true [I x3,I x4,I x5])]⟩
theorem Aw {X:Cx} {res:SV} {new:List (Option Vw)} {x1 x2 x3 x4 x5:Int} (hX:Fi X 60 [] res new) (h0:(0:Int)≤x1) (h1:aj .i64 (x1/146097)) (h2:aj .i64 ((if 24<(x1/146097)then 24 else(x1/146097))*400)) (h3:aj .i64 (x2+((if 24<(x1/146097)then 24 else(x1/146097))*400))) (h4:aj .i64 ((if 24<(x1/146097)then 24 else(x1/146097))*146097)) (h5:aj .i64 (x1-((if 24<(x1/146097)then 24 else(x1/146097))*146097))) (k:Ok X (oh (x1-((if 24<(x1/146097)then 24 else(x1/146097))*146097)) (x2+((if 24<(x1/146097)then 24 else(x1/146097))*400)) x3 x4 x5)):
  Ok X (rP x1 x2 x3 x4 x5):=
 Ok.bg 45 [tb, .draw 6 [] 0] [cN 63 [0,2,4,22,23]] [.ae 0] 0 hX.P hX.gl hX.n0 (by kernel_rfl) (by kernel_rfl) (by exact⟨rfl,trivial⟩) (ca (show decide ((0:Int)<4)=true from rfl) (ca (show(0:Int)≤0∧0<((4:Nat):Int)from by decide) (ca h0 (ca (show(0:Int)<146097 from by decide) (ca h1 (ca h2 (ca h3 (ca h4 (ca h5 (ca (show aj .i64 1 from by decide) na)))))))))) k
noncomputable def og (x1:Int) (x2:Int) (x3:Int) (x4:Int) (x5:Int):SC:=
 ⟨[⟨60,bJ 63 [(0,I x1),(2, .ptr 0 0),(4,I x2),(22, .agg [I 146097,I 400,I 24,I 36524,I 100,I 3,I 1461,I 4,I 24,I 365,I 1,I 3]),(23,I 2)],[.code (aa Tryz.f60 [1,1,1,1,0,1,0,0]), .inLoop (aa Tryz.f60 [1,1,1,1,0,1,0,0]), .inBlock 0, .code (aa Tryz.f60 [1,1,1,1,1])],{}⟩],[some (.box true [I x3,I x4,I x5])]⟩
theorem Av {X:Cx} {res:SV} {new:List (Option Vw)} {x1 x2 x3 x4 x5:Int} (hX:Fi X 60 [] res new) (h0:(0:Int)≤x1) (h1:aj .i64 (x1/36524)) (h2:aj .i64 ((if 3<(x1/36524)then 3 else(x1/36524))*100)) (h3:aj .i64 (x2+((if 3<(x1/36524)then 3 else(x1/36524))*100))) (h4:aj .i64 ((if 3<(x1/36524)then 3 else(x1/36524))*36524)) (h5:aj .i64 (x1-((if 3<(x1/36524)then 3 else(x1/36524))*36524))) (k:Ok X (og (x1-((if 3<(x1/36524)then 3 else(x1/36524))*36524)) (x2+((if 3<(x1/36524)then 3 else(x1/36524))*100)) x3 x4 x5)):
  Ok X (oh x1 x2 x3 x4 x5):=
 Ok.bg 45 [tb, .draw 6 [] 0] [cN 63 [0,2,4,22,23]] [.ae 0] 0 hX.P hX.gl hX.n0 (by kernel_rfl) (by kernel_rfl) (by exact⟨rfl,trivial⟩) (ca (show decide ((1:Int)<4)=true from rfl) (ca (show(0:Int)≤1∧1<((4:Nat):Int)from by decide) (ca h0 (ca (show(0:Int)<36524 from by decide) (ca h1 (ca h2 (ca h3 (ca h4 (ca h5 (ca (show aj .i64 2 from by decide) na)))))))))) k
noncomputable def oe (x1:Int) (x2:Int) (x3:Int) (x4:Int) (x5:Int):SC:=
 ⟨[⟨60,bJ 63 [(0,I x1),(2, .ptr 0 0),(4,I x2),(22, .agg [I 146097,I 400,I 24,I 36524,I 100,I 3,I 1461,I 4,I 24,I 365,I 1,I 3]),(23,I 3)],[.code (aa Tryz.f60 [1,1,1,1,0,1,0,0]), .inLoop (aa Tryz.f60 [1,1,1,1,0,1,0,0]), .inBlock 0, .code (aa Tryz.f60 [1,1,1,1,1])],{}⟩],[some (.box true [I x3,I x4,I x5])]⟩
theorem Au {X:Cx} {res:SV} {new:List (Option Vw)} {x1 x2 x3 x4 x5:Int} (hX:Fi X 60 [] res new) (h0:(0:Int)≤x1) (h1:aj .i64 (x1/1461)) (h2:aj .i64 ((if 24<(x1/1461)then 24 else(x1/1461))*4)) (h3:aj .i64 (x2+((if 24<(x1/1461)then 24 else(x1/1461))*4))) (h4:aj .i64 ((if 24<(x1/1461)then 24 else(x1/1461))*1461)) (h5:aj .i64 (x1-((if 24<(x1/1461)then 24 else(x1/1461))*1461))) (k:Ok X (oe (x1-((if 24<(x1/1461)then 24 else(x1/1461))*1461)) (x2+((if 24<(x1/1461)then 24 else(x1/1461))*4)) x3 x4 x5)):
  Ok X (og x1 x2 x3 x4 x5):=
 Ok.bg 45 [tb, .draw 6 [] 0] [cN 63 [0,2,4,22,23]] [.ae 0] 0 hX.P hX.gl hX.n0 (by kernel_rfl) (by kernel_rfl) (by exact⟨rfl,trivial⟩) (ca (show decide ((2:Int)<4)=true from rfl) (ca (show(0:Int)≤2∧2<((4:Nat):Int)from by decide) (ca h0 (ca (show(0:Int)<1461 from by decide) (ca h1 (ca h2 (ca h3 (ca h4 (ca h5 (ca (show aj .i64 3 from by decide) na)))))))))) k
noncomputable def od (x1:Int) (x2:Int) (x3:Int) (x4:Int) (x5:Int):SC:=
 ⟨[⟨60,bJ 63 [(0,I x1),(2, .ptr 0 0),(4,I x2),(22, .agg [I 146097,I 400,I 24,I 36524,I 100,I 3,I 1461,I 4,I 24,I 365,I 1,I 3]),(23,I 4)],[.code (aa Tryz.f60 [1,1,1,1,0,1,0,0]), .inLoop (aa Tryz.f60 [1,1,1,1,0,1,0,0]), .inBlock 0, .code (aa Tryz.f60 [1,1,1,1,1])],{}⟩],[some (.box true [I x3,I x4,I x5])]⟩
theorem At {X:Cx} {res:SV} {new:List (Option Vw)} {x1 x2 x3 x4 x5:Int} (hX:Fi X 60 [] res new) (h0:(0:Int)≤x1) (h1:aj .i64 (x1/365)) (h2:aj .i64 ((if 3<(x1/365)then 3 else(x1/365))*1)) (h3:aj .i64 (x2+((if 3<(x1/365)then 3 else(x1/365))*1))) (h4:aj .i64 ((if 3<(x1/365)then 3 else(x1/365))*365)) (h5:aj .i64 (x1-((if 3<(x1/365)then 3 else(x1/365))*365))) (k:Ok X (od (x1-((if 3<(x1/365)then 3 else(x1/365))*365)) (x2+((if 3<(x1/365)then 3 else(x1/365))*1)) x3 x4 x5)):
  Ok X (oe x1 x2 x3 x4 x5):=
 Ok.bg 45 [tb, .draw 6 [] 0] [cN 63 [0,2,4,22,23]] [.ae 0] 0 hX.P hX.gl hX.n0 (by kernel_rfl) (by kernel_rfl) (by exact⟨rfl,trivial⟩) (ca (show decide ((3:Int)<4)=true from rfl) (ca (show(0:Int)≤3∧3<((4:Nat):Int)from by decide) (ca h0 (ca (show(0:Int)<365 from by decide) (ca h1 (ca h2 (ca h3 (ca h4 (ca h5 (ca (show aj .i64 4 from by decide) na)))))))))) k
noncomputable def dH (x1:Int) (x2:Int) (x3:Int) (x4:Int) (x5:Int) (x6:Int):SC:=
 ⟨[⟨60,bJ 63 [(0,I x1),(2, .ptr 0 0),(4,I x2),(8,I x3)],[.code (aa Tryz.f60 [1,1,1,1,1,1,0,0,0]), .inLoop (aa Tryz.f60 [1,1,1,1,1,1,0,0,0]), .inBlock 2, .code (aa Tryz.f60 [1,1,1,1,1,1,1])],{}⟩],[some (.box true [I x4,I x5,I x6])]⟩
theorem Ar {X:Cx} {res:SV} {new:List (Option Vw)} {x1 x2 x3 x4 x5:Int} (hX:Fi X 60 [] res new) (k:Ok X (dH x1 x2 1 x3 x4 x5)):
  Ok X (od x1 x2 x3 x4 x5):=
 Ok.bg 14 [fb] [cN 63 [0,2,4,8]] [.ae 0] 0 hX.P hX.gl hX.n0 (by kernel_rfl) (by kernel_rfl) (by exact⟨rfl,trivial⟩) (ca (show decide ((4:Int)<4)=false from rfl) na) k
theorem Ap {X:Cx} {res:SV} {new:List (Option Vw)} {x1 x2 x3 x4 x5 x6 r5007 r5008:Int} (hX:Fi X 60 [] res new) (h0:S 88 [I x2,I x3] [] (I r5007) []) (h1:x1≥r5007) (h2:S 88 [I x2,I x3] [] (I r5008) []) (h3:aj .i64 (x1-r5008)) (h4:aj .i64 (x3+1)) (k:Ok X (dH (x1-r5008) x2 (x3+1) x4 x5 x6)):
  Ok X (dH x1 x2 x3 x4 x5 x6):=
 Ok.bg 28 [.call [] (I r5007) [],tb, .call [] (I r5008) []] [cN 63 [0,2,4,8]] [.ae 0] 0 hX.P hX.gl hX.n0 (by kernel_rfl) (by kernel_rfl) (by exact⟨rfl,trivial⟩) (ca h0 (ca (dt h1) (ca h2 (ca h3 (ca h4 na))))) k
theorem Ao {X:Cx} {x1 x2 x3 x4 x5 x6 r5007:Int} (hX:Fi X 60 [] (.af [.agg [I x2,I x3,I (x1+1)],I 0]) []) (h0:S 88 [I x2,I x3] [] (I r5007) []) (h1: ¬x1≥r5007) (h2:aj .i64 (x1+1)):
  Ok X (dH x1 x2 x3 x4 x5 x6):=
 Ok.fin 21 [.call [] (I r5007) [],fb] [] 1 hX (by kernel_rfl) rfl (ca h0 (ca (df h1) (ca h2 na)))
theorem BP {X:Cx} {y:Int} {x4 x5 x6:Int} (hy:0≤y): ∀ (j m:Nat) (r:Int),j+m=13→1≤m→0≤r→r<cq y 12-cq y (m-1)→
  av X Tryz.prog GL 60 [] (.af [.agg [I y,I (ofMon y j m r).1,I (ofMon y j m r).2],I 0]) []→Ok X (dH r y (m:Int) x4 x5 x6)
 |0,m,r,hj,hm,hr,hl,hX=>by
  grind
 |j+1,m,r,hj,hm,hr,hl,hX=>by
  have e:cq y m=cq y (m-1)+len y (m:Int):=by
   obtain⟨k,rfl⟩: ∃ k,m=k+1:=⟨m-1,by omega⟩
   rfl
  have hle:=ib y (m:Int)
  have h12:=jH y 12
  have h0:=(jH y (m-1)).2
  unfold ofMon at hX
  split at hX
  ·rename_i h
   refine Ap hX (kq hy) h (kq hy) (by simp only[aj];omega) (by simp only[aj];omega) ?_
   exact BP hy j (m+1) (r-len y (m:Int)) (by omega) (by omega) (by omega) (by simp only[Nat.add_sub_cancel];omega) hX
  ·rename_i h
   exact Ao hX (kq hy) h (by simp only[aj];omega)
theorem Mo {n:Int} (h1:1≤n) (h2:n≤3652059):ab Tryz.prog GL 60 [I n] [] (.af [.agg [I (dT n).1,I (dT n).2.1,I (dT n).2.2],I 0]) []:=by
 refine ab.of (by kernel_rfl) rfl trivial rfl (fun X hX=> ?_)
 obtain⟨a1,a2,a3,a4,a5⟩:=qm h1 h2
 have hlast:Ok X (dH (fc n).2 (fc n).1 ((1:Nat):Int) 0 0 0):=BP (by omega) 12 1 (fc n).2 rfl (by omega) a3 (by simpa[cq]using a4) hX
 obtain⟨k1,hk1⟩: ∃ k,q4 24 146097 (n-1)=k:=⟨_,rfl⟩
 obtain⟨n1,hn1⟩: ∃ k,n-1-k1*146097=k:=⟨_,rfl⟩
 obtain⟨k2,hk2⟩: ∃ k,q4 3 36524 n1=k:=⟨_,rfl⟩
 obtain⟨n2,hn2⟩: ∃ k,n1-k2*36524=k:=⟨_,rfl⟩
 obtain⟨k3,hk3⟩: ∃ k,q4 24 1461 n2=k:=⟨_,rfl⟩
 obtain⟨n3,hn3⟩: ∃ k,n2-k3*1461=k:=⟨_,rfl⟩
 obtain⟨k4,hk4⟩: ∃ k,q4 3 365 n3=k:=⟨_,rfl⟩
 have hlast':Ok X (dH (n3-k4*365) (1+k1*400+k2*100+k3*4+k4*1) ((1:Nat):Int) 0 0 0):=by
  subst hk4 hn3 hk3 hn2 hk2 hn1 hk1;exact hlast
 have g1:=rD 24 146097 (n-1)
 have g2:=rD 3 36524 n1
 have g3:=rD 24 1461 n2
 have g4:=rD 3 365 n3
 rw[hk1]at g1
 rw[hk2]at g2
 rw[hk3]at g3
 rw[hk4]at g4
 have b1:0≤k1∧k1≤24∧0≤n1∧n1<146097:=by omega
 have b2:0≤k2∧k2≤3∧0≤n2∧n2≤36524:=by omega
 have b3:0≤k3∧k3≤24∧0≤n3∧n3<1461:=by omega
 have b4:0≤k4∧k4≤3∧0≤n3-k4*365:=by omega
 refine Ax hX (by omega) (by omega) (by simp only[aj];omega) ?_
 refine Aw hX (by omega) (by simp only[aj];omega) (by show aj .i64 (q4 24 146097 (n-1)*400);rw[hk1];simp only[aj];omega) (by show aj .i64 (1+q4 24 146097 (n-1)*400);rw[hk1];simp only[aj];omega) (by show aj .i64 (q4 24 146097 (n-1)*146097);rw[hk1];simp only[aj];omega) (by show aj .i64 ((n-1)-q4 24 146097 (n-1)*146097);rw[hk1];simp only[aj];omega) ?_
 show Ok X (oh (n-1-q4 24 146097 (n-1)*146097) (1+q4 24 146097 (n-1)*400) 0 0 0)
 rw[hk1,hn1]
 refine Av hX (by omega) (by simp only[aj];omega) (by show aj .i64 (q4 3 36524 n1*100);rw[hk2];simp only[aj];omega) (by show aj .i64 (1+k1*400+q4 3 36524 n1*100);rw[hk2];simp only[aj];omega) (by show aj .i64 (q4 3 36524 n1*36524);rw[hk2];simp only[aj];omega) (by show aj .i64 (n1-q4 3 36524 n1*36524);rw[hk2];simp only[aj];omega) ?_
 show Ok X (og (n1-q4 3 36524 n1*36524) (1+k1*400+q4 3 36524 n1*100) 0 0 0)
 rw[hk2,hn2]
 refine Au hX (by omega) (by simp only[aj];omega) (by show aj .i64 (q4 24 1461 n2*4);rw[hk3];simp only[aj];omega) (by show aj .i64 (1+k1*400+k2*100+q4 24 1461 n2*4);rw[hk3];simp only[aj];omega) (by show aj .i64 (q4 24 1461 n2*1461);rw[hk3];simp only[aj];omega) (by show aj .i64 (n2-q4 24 1461 n2*1461);rw[hk3];simp only[aj];omega) ?_
 show Ok X (oe (n2-q4 24 1461 n2*1461) (1+k1*400+k2*100+q4 24 1461 n2*4) 0 0 0)
 rw[hk3,hn3]
 refine At hX (by omega) (by simp only[aj];omega) (by show aj .i64 (q4 3 365 n3*1);rw[hk4];simp only[aj];omega) (by show aj .i64 (1+k1*400+k2*100+k3*4+q4 3 365 n3*1);rw[hk4];simp only[aj];omega) (by show aj .i64 (q4 3 365 n3*365);rw[hk4];simp only[aj];omega) (by show aj .i64 (n3-q4 3 365 n3*365);rw[hk4];simp only[aj];omega) ?_
 grind [Ar,od,q4]
theorem BQ {n:Int} (h: ¬(1≤n∧n≤3652059)):ab Tryz.prog GL 60 [I n] [] (.af [.agg [I 0,I 0,I 0],I 3]) []:=by
 grind [Az,Ay]
theorem lg {a1:Int} (h0:(0:Int)≤a1) (h1:(a1%400)=0):
  S 99 [I a1] [] (B true) []:=
 ab.path 16 [tb] [] 0 (by kernel_rfl) rfl (by exact trivial) (ca h0 (ca (show(0:Int)<400 from by decide) (ca (beq_iff_eq.2 h1) na)))
theorem lf {a1:Int} (h0:(0:Int)≤a1) (h1:(a1%400)≠0) (h2:(a1%4)=0):
  S 99 [I a1] [] (B ((a1%100) !=0)) []:=
 ab.path 25 [fb,tb,tb,tb,tb] [] 0 (by kernel_rfl) rfl (by exact trivial) (ca h0 (ca (show(0:Int)<400 from by decide) (ca (beq_eq_false_iff_ne.2 h1) (ca h0 (ca (show(0:Int)<4 from by decide) (ca (beq_iff_eq.2 h2) (ca (beq_iff_eq.2 h2) (ca h0 (ca (show(0:Int)<100 from by decide) (ca (beq_iff_eq.2 h2) (ca (beq_iff_eq.2 h2) na)))))))))))
theorem k_ {a1:Int} (h0:(0:Int)≤a1) (h1:(a1%400)≠0) (h2:(a1%4)≠0):
  S 99 [I a1] [] (B false) []:=
 ab.path 25 [fb,fb,fb,fb,fb] [] 0 (by kernel_rfl) rfl (by exact trivial) (ca h0 (ca (show(0:Int)<400 from by decide) (ca (beq_eq_false_iff_ne.2 h1) (ca h0 (ca (show(0:Int)<4 from by decide) (ca (beq_eq_false_iff_ne.2 h2) (ca (beq_eq_false_iff_ne.2 h2) (ca (beq_eq_false_iff_ne.2 h2) (ca (beq_eq_false_iff_ne.2 h2) na)))))))))
theorem vK {y:Int} (h:0≤y):ab Tryz.prog GL 99 [I y] [] (B (lp y)) []:=by
 unfold lp
 by_cases h1:y%400=0
 ·rw[decide_eq_true (by exact⟨by omega, .inr h1⟩)]
  exact lg h h1
 ·by_cases h2:y%4=0
  ·have:=lf h h1 h2
   rw[show decide (y%4=0∧(y%100≠0∨y%400=0))=(y%100 !=0)by
    by_cases h3:y%100=0
    ·rw[h3];simp[h1]
    ·simp[h2,h3]]
   exact this
  grind [k_]
theorem jj {a1 a2:Int} (h0:a2=1):
  S 74 [I a1,I a2] [] (I 31) []:=
 ab.path 23 [tb,tb] [] 0 (by kernel_rfl) rfl (by exact trivial) (ca (beq_iff_eq.2 h0) (ca (beq_iff_eq.2 h0) na))
theorem ji {a1 a2:Int} (h0:a2≠1) (h1:a2=3):
  S 74 [I a1,I a2] [] (I 31) []:=
 ab.path 29 [fb,tb,tb] [] 0 (by kernel_rfl) rfl (by exact trivial) (ca (beq_eq_false_iff_ne.2 h0) (ca (beq_iff_eq.2 h1) (ca (beq_iff_eq.2 h1) na)))
theorem jh {a1 a2:Int} (h0:a2≠1) (h1:a2≠3) (h2:a2=5):
  S 74 [I a1,I a2] [] (I 31) []:=
 ab.path 35 [fb,fb,tb,tb] [] 0 (by kernel_rfl) rfl (by exact trivial) (ca (beq_eq_false_iff_ne.2 h0) (ca (beq_eq_false_iff_ne.2 h1) (ca (beq_iff_eq.2 h2) (ca (beq_iff_eq.2 h2) na))))
theorem jg {a1 a2:Int} (h0:a2≠1) (h1:a2≠3) (h2:a2≠5) (h3:a2=7):
  S 74 [I a1,I a2] [] (I 31) []:=
 ab.path 41 [fb,fb,fb,tb,tb] [] 0 (by kernel_rfl) rfl (by exact trivial) (ca (beq_eq_false_iff_ne.2 h0) (ca (beq_eq_false_iff_ne.2 h1) (ca (beq_eq_false_iff_ne.2 h2) (ca (beq_iff_eq.2 h3) (ca (beq_iff_eq.2 h3) na)))))
theorem jf {a1 a2:Int} (h0:a2≠1) (h1:a2≠3) (h2:a2≠5) (h3:a2≠7) (h4:a2=8):
  S 74 [I a1,I a2] [] (I 31) []:=
 ab.path 47 [fb,fb,fb,fb,tb,tb] [] 0 (by kernel_rfl) rfl (by exact trivial) (ca (beq_eq_false_iff_ne.2 h0) (ca (beq_eq_false_iff_ne.2 h1) (ca (beq_eq_false_iff_ne.2 h2) (ca (beq_eq_false_iff_ne.2 h3) (ca (beq_iff_eq.2 h4) (ca (beq_iff_eq.2 h4) na))))))
theorem je {a1 a2:Int} (h0:a2≠1) (h1:a2≠3) (h2:a2≠5) (h3:a2≠7) (h4:a2≠8) (h5:a2=10):
  S 74 [I a1,I a2] [] (I 31) []:=
 ab.path 53 [fb,fb,fb,fb,fb,tb,tb] [] 0 (by kernel_rfl) rfl (by exact trivial) (ca (beq_eq_false_iff_ne.2 h0) (ca (beq_eq_false_iff_ne.2 h1) (ca (beq_eq_false_iff_ne.2 h2) (ca (beq_eq_false_iff_ne.2 h3) (ca (beq_eq_false_iff_ne.2 h4) (ca (beq_iff_eq.2 h5) (ca (beq_iff_eq.2 h5) na)))))))
theorem jd {a1 a2:Int} (h0:a2≠1) (h1:a2≠3) (h2:a2≠5) (h3:a2≠7) (h4:a2≠8) (h5:a2≠10) (h6:a2=12):
  S 74 [I a1,I a2] [] (I 31) []:=
 ab.path 56 [fb,fb,fb,fb,fb,fb,tb] [] 0 (by kernel_rfl) rfl (by exact trivial) (ca (beq_eq_false_iff_ne.2 h0) (ca (beq_eq_false_iff_ne.2 h1) (ca (beq_eq_false_iff_ne.2 h2) (ca (beq_eq_false_iff_ne.2 h3) (ca (beq_eq_false_iff_ne.2 h4) (ca (beq_eq_false_iff_ne.2 h5) (ca (beq_iff_eq.2 h6) na)))))))
theorem jc {a1 a2:Int} (h0:a2≠1) (h1:a2≠3) (h2:a2≠5) (h3:a2≠7) (h4:a2≠8) (h5:a2≠10) (h6:a2≠12) (h7:a2=4):
  S 74 [I a1,I a2] [] (I 30) []:=
 ab.path 65 [fb,fb,fb,fb,fb,fb,fb,tb,tb] [] 0 (by kernel_rfl) rfl (by exact trivial) (ca (beq_eq_false_iff_ne.2 h0) (ca (beq_eq_false_iff_ne.2 h1) (ca (beq_eq_false_iff_ne.2 h2) (ca (beq_eq_false_iff_ne.2 h3) (ca (beq_eq_false_iff_ne.2 h4) (ca (beq_eq_false_iff_ne.2 h5) (ca (beq_eq_false_iff_ne.2 h6) (ca (beq_iff_eq.2 h7) (ca (beq_iff_eq.2 h7) na)))))))))
theorem jb {a1 a2:Int} (h0:a2≠1) (h1:a2≠3) (h2:a2≠5) (h3:a2≠7) (h4:a2≠8) (h5:a2≠10) (h6:a2≠12) (h7:a2≠4) (h8:a2=6):
  S 74 [I a1,I a2] [] (I 30) []:=
 ab.path 71 [fb,fb,fb,fb,fb,fb,fb,fb,tb,tb] [] 0 (by kernel_rfl) rfl (by exact trivial) (ca (beq_eq_false_iff_ne.2 h0) (ca (beq_eq_false_iff_ne.2 h1) (ca (beq_eq_false_iff_ne.2 h2) (ca (beq_eq_false_iff_ne.2 h3) (ca (beq_eq_false_iff_ne.2 h4) (ca (beq_eq_false_iff_ne.2 h5) (ca (beq_eq_false_iff_ne.2 h6) (ca (beq_eq_false_iff_ne.2 h7) (ca (beq_iff_eq.2 h8) (ca (beq_iff_eq.2 h8) na))))))))))
theorem ja {a1 a2:Int} (h0:a2≠1) (h1:a2≠3) (h2:a2≠5) (h3:a2≠7) (h4:a2≠8) (h5:a2≠10) (h6:a2≠12) (h7:a2≠4) (h8:a2≠6) (h9:a2=9):
  S 74 [I a1,I a2] [] (I 30) []:=
 ab.path 77 [fb,fb,fb,fb,fb,fb,fb,fb,fb,tb,tb] [] 0 (by kernel_rfl) rfl (by exact trivial) (ca (beq_eq_false_iff_ne.2 h0) (ca (beq_eq_false_iff_ne.2 h1) (ca (beq_eq_false_iff_ne.2 h2) (ca (beq_eq_false_iff_ne.2 h3) (ca (beq_eq_false_iff_ne.2 h4) (ca (beq_eq_false_iff_ne.2 h5) (ca (beq_eq_false_iff_ne.2 h6) (ca (beq_eq_false_iff_ne.2 h7) (ca (beq_eq_false_iff_ne.2 h8) (ca (beq_iff_eq.2 h9) (ca (beq_iff_eq.2 h9) na)))))))))))
theorem iA {a1 a2:Int} (h0:a2≠1) (h1:a2≠3) (h2:a2≠5) (h3:a2≠7) (h4:a2≠8) (h5:a2≠10) (h6:a2≠12) (h7:a2≠4) (h8:a2≠6) (h9:a2≠9) (h10:a2=11):
  S 74 [I a1,I a2] [] (I 30) []:=
 ab.path 80 [fb,fb,fb,fb,fb,fb,fb,fb,fb,fb,tb] [] 0 (by kernel_rfl) rfl (by exact trivial) (ca (beq_eq_false_iff_ne.2 h0) (ca (beq_eq_false_iff_ne.2 h1) (ca (beq_eq_false_iff_ne.2 h2) (ca (beq_eq_false_iff_ne.2 h3) (ca (beq_eq_false_iff_ne.2 h4) (ca (beq_eq_false_iff_ne.2 h5) (ca (beq_eq_false_iff_ne.2 h6) (ca (beq_eq_false_iff_ne.2 h7) (ca (beq_eq_false_iff_ne.2 h8) (ca (beq_eq_false_iff_ne.2 h9) (ca (beq_iff_eq.2 h10) na)))))))))))
theorem iz {a1 a2:Int} {r3:Bool} (h0:a2≠1) (h1:a2≠3) (h2:a2≠5) (h3:a2≠7) (h4:a2≠8) (h5:a2≠10) (h6:a2≠12) (h7:a2≠4) (h8:a2≠6) (h9:a2≠9) (h10:a2≠11) (h11:a2=2) (h12:S 99 [I a1] [] (B r3) []) (h13:r3=true):
  S 74 [I a1,I a2] [] (I 29) []:=
 ab.path 98 [fb,fb,fb,fb,fb,fb,fb,fb,fb,fb,fb,tb, .call [] (B r3) [],tb] [] 0 (by kernel_rfl) rfl (by exact trivial) (ca (beq_eq_false_iff_ne.2 h0) (ca (beq_eq_false_iff_ne.2 h1) (ca (beq_eq_false_iff_ne.2 h2) (ca (beq_eq_false_iff_ne.2 h3) (ca (beq_eq_false_iff_ne.2 h4) (ca (beq_eq_false_iff_ne.2 h5) (ca (beq_eq_false_iff_ne.2 h6) (ca (beq_eq_false_iff_ne.2 h7) (ca (beq_eq_false_iff_ne.2 h8) (ca (beq_eq_false_iff_ne.2 h9) (ca (beq_eq_false_iff_ne.2 h10) (ca (beq_iff_eq.2 h11) (ca h12 (ca h13 na))))))))))))))
theorem iy {a1 a2:Int} {r3:Bool} (h0:a2≠1) (h1:a2≠3) (h2:a2≠5) (h3:a2≠7) (h4:a2≠8) (h5:a2≠10) (h6:a2≠12) (h7:a2≠4) (h8:a2≠6) (h9:a2≠9) (h10:a2≠11) (h11:a2=2) (h12:S 99 [I a1] [] (B r3) []) (h13:r3=false):
  S 74 [I a1,I a2] [] (I 28) []:=
 ab.path 99 [fb,fb,fb,fb,fb,fb,fb,fb,fb,fb,fb,tb, .call [] (B r3) [],fb] [] 0 (by kernel_rfl) rfl (by exact trivial) (ca (beq_eq_false_iff_ne.2 h0) (ca (beq_eq_false_iff_ne.2 h1) (ca (beq_eq_false_iff_ne.2 h2) (ca (beq_eq_false_iff_ne.2 h3) (ca (beq_eq_false_iff_ne.2 h4) (ca (beq_eq_false_iff_ne.2 h5) (ca (beq_eq_false_iff_ne.2 h6) (ca (beq_eq_false_iff_ne.2 h7) (ca (beq_eq_false_iff_ne.2 h8) (ca (beq_eq_false_iff_ne.2 h9) (ca (beq_eq_false_iff_ne.2 h10) (ca (beq_iff_eq.2 h11) (ca h12 (ca h13 na))))))))))))))
theorem iw {a1 a2:Int} (h0:a2≠1) (h1:a2≠3) (h2:a2≠5) (h3:a2≠7) (h4:a2≠8) (h5:a2≠10) (h6:a2≠12) (h7:a2≠4) (h8:a2≠6) (h9:a2≠9) (h10:a2≠11) (h11:a2≠2):
  S 74 [I a1,I a2] [] (I 0) []:=
 ab.path 88 [fb,fb,fb,fb,fb,fb,fb,fb,fb,fb,fb,fb] [] 0 (by kernel_rfl) rfl (by exact trivial) (ca (beq_eq_false_iff_ne.2 h0) (ca (beq_eq_false_iff_ne.2 h1) (ca (beq_eq_false_iff_ne.2 h2) (ca (beq_eq_false_iff_ne.2 h3) (ca (beq_eq_false_iff_ne.2 h4) (ca (beq_eq_false_iff_ne.2 h5) (ca (beq_eq_false_iff_ne.2 h6) (ca (beq_eq_false_iff_ne.2 h7) (ca (beq_eq_false_iff_ne.2 h8) (ca (beq_eq_false_iff_ne.2 h9) (ca (beq_eq_false_iff_ne.2 h10) (ca (beq_eq_false_iff_ne.2 h11) na))))))))))))
theorem fU {y m:Int} (h:0≤y):ab Tryz.prog GL 74 [I y,I m] [] (I (len y m)) []:=by
 unfold len
 by_cases h0:m<1∨m>12
 ·grind [iw]
 ·rw[if_neg h0]
  by_cases h2:m=2
  ·subst h2
   cases hp:lp y
   ·rw[if_neg (by simp)]
    exact iy (by omega) (by omega) (by omega) (by omega) (by omega) (by omega) (by omega) (by omega) (by omega) (by omega) (by omega) rfl (vK h) hp
   ·rw[if_pos (by simp)]
    exact iz (by omega) (by omega) (by omega) (by omega) (by omega) (by omega) (by omega) (by omega) (by omega) (by omega) (by omega) rfl (vK h) hp
  ·rw[if_neg (by simp[h2])]
   rcases(by omega:m=1∨m=3∨m=4∨m=5∨m=6∨m=7∨m=8∨m=9∨m=10∨m=11∨m=12)with rfl|rfl|rfl|rfl|rfl|rfl|rfl|rfl|rfl|rfl|rfl
   ·exact jj rfl
   ·exact ji (by omega) rfl
   ·exact jc (by omega) (by omega) (by omega) (by omega) (by omega) (by omega) (by omega) rfl
   ·exact jh (by omega) (by omega) rfl
   ·exact jb (by omega) (by omega) (by omega) (by omega) (by omega) (by omega) (by omega) (by omega) rfl
   ·exact jg (by omega) (by omega) (by omega) rfl
   ·exact jf (by omega) (by omega) (by omega) (by omega) rfl
   ·exact ja (by omega) (by omega) (by omega) (by omega) (by omega) (by omega) (by omega) (by omega) (by omega) rfl
   ·exact je (by omega) (by omega) (by omega) (by omega) (by omega) rfl
   ·exact iA (by omega) (by omega) (by omega) (by omega) (by omega) (by omega) (by omega) (by omega) (by omega) (by omega) rfl
   ·exact jd (by omega) (by omega) (by omega) (by omega) (by omega) (by omega) rfl
theorem nK {a1 a2 a3:Int} (h0:a1<1):
  S 152 [.agg [I a1,I a2,I a3]] [] (B false) []:=
 ab.path 37 [tb,tb,tb,tb,tb,tb,tb,tb,tb,tb,tb,tb,tb,tb,tb,tb,tb] [] 1 (by kernel_rfl) rfl (by exact trivial) (ca (dt h0) (ca (dt h0) (ca (dt h0) (ca (dt h0) (ca rt (ca rt (ca rt (ca rt (ca rt (ca rt (ca rt (ca rt (ca rt (ca rt (ca rt (ca rt (ca rt na)))))))))))))))))
theorem nJ {a1 a2 a3:Int} (h0: ¬a1<1) (h1:a1>9999):
  S 152 [.agg [I a1,I a2,I a3]] [] (B false) []:=
 ab.path 37 [fb,fb,fb,fb,tb,tb,tb,tb,tb,tb,tb,tb,tb,tb,tb,tb,tb] [] 1 (by kernel_rfl) rfl (by exact trivial) (ca (df h0) (ca (df h0) (ca (df h0) (ca (df h0) (ca (dt h1) (ca (dt h1) (ca (dt h1) (ca (dt h1) (ca rt (ca rt (ca rt (ca rt (ca rt (ca rt (ca rt (ca rt (ca rt na)))))))))))))))))
theorem nI {a1 a2 a3:Int} (h0: ¬a1<1) (h1: ¬a1>9999) (h2:a2<1):
  S 152 [.agg [I a1,I a2,I a3]] [] (B false) []:=
 ab.path 37 [fb,fb,fb,fb,fb,fb,fb,fb,tb,tb,tb,tb,tb,tb,tb,tb,tb] [] 1 (by kernel_rfl) rfl (by exact trivial) (ca (df h0) (ca (df h0) (ca (df h0) (ca (df h0) (ca (df h1) (ca (df h1) (ca (df h1) (ca (df h1) (ca (dt h2) (ca (dt h2) (ca (dt h2) (ca (dt h2) (ca rt (ca rt (ca rt (ca rt (ca rt na)))))))))))))))))
theorem nH {a1 a2 a3:Int} (h0: ¬a1<1) (h1: ¬a1>9999) (h2: ¬a2<1) (h3:a2>12):
  S 152 [.agg [I a1,I a2,I a3]] [] (B false) []:=
 ab.path 37 [fb,fb,fb,fb,fb,fb,fb,fb,fb,fb,fb,fb,tb,tb,tb,tb,tb] [] 1 (by kernel_rfl) rfl (by exact trivial) (ca (df h0) (ca (df h0) (ca (df h0) (ca (df h0) (ca (df h1) (ca (df h1) (ca (df h1) (ca (df h1) (ca (df h2) (ca (df h2) (ca (df h2) (ca (df h2) (ca (dt h3) (ca (dt h3) (ca (dt h3) (ca (dt h3) (ca rt na)))))))))))))))))
theorem nG {a1 a2 a3:Int} (h0: ¬a1<1) (h1: ¬a1>9999) (h2: ¬a2<1) (h3: ¬a2>12) (h4:a3<1):
  S 152 [.agg [I a1,I a2,I a3]] [] (B false) []:=
 ab.path 37 [fb,fb,fb,fb,fb,fb,fb,fb,fb,fb,fb,fb,fb,fb,fb,fb,tb] [] 1 (by kernel_rfl) rfl (by exact trivial) (ca (df h0) (ca (df h0) (ca (df h0) (ca (df h0) (ca (df h1) (ca (df h1) (ca (df h1) (ca (df h1) (ca (df h2) (ca (df h2) (ca (df h2) (ca (df h2) (ca (df h3) (ca (df h3) (ca (df h3) (ca (df h3) (ca (dt h4) na)))))))))))))))))
theorem nF {a1 a2 a3 r4:Int} (h0: ¬a1<1) (h1: ¬a1>9999) (h2: ¬a2<1) (h3: ¬a2>12) (h4: ¬a3<1) (h5:S 74 [I a1,I a2] [] (I r4) []):
  S 152 [.agg [I a1,I a2,I a3]] [] (B (decide (a3≤r4))) []:=
 ab.path 51 [fb,fb,fb,fb,fb,fb,fb,fb,fb,fb,fb,fb,fb,fb,fb,fb,fb, .call [] (I r4) []] [] 1 (by kernel_rfl) rfl (by exact trivial) (ca (df h0) (ca (df h0) (ca (df h0) (ca (df h0) (ca (df h1) (ca (df h1) (ca (df h1) (ca (df h1) (ca (df h2) (ca (df h2) (ca (df h2) (ca (df h2) (ca (df h3) (ca (df h3) (ca (df h3) (ca (df h3) (ca (df h4) (ca h5 na))))))))))))))))))
def dL (y m d:Int):Bool:=decide (1≤y∧y≤9999∧1≤m∧m≤12∧1≤d∧d≤len y m)
theorem G9 (y m d:Int):ab Tryz.prog GL 152 [.agg [I y,I m,I d]] [] (B (dL y m d)) []:=by
 unfold dL
 by_cases h0:y<1
 ·grind [nK]
 by_cases h1:y>9999
 ·grind [nJ]
 by_cases h2:m<1
 ·grind [nI]
 by_cases h3:m>12
 ·grind [nH]
 by_cases h4:d<1
 all_goals grind [nG,nF,len,fU]
theorem nM {a1:Int} (h0:a1≥1):
  S 37 [I a1] [] (B (decide (a1≤3652059))) []:=
 ab.path 14 [tb,tb,tb] [] 0 (by kernel_rfl) rfl (by exact trivial) (ca (dt h0) (ca (dt h0) (ca (dt h0) na)))
theorem nL {a1:Int} (h0: ¬a1≥1):
  S 37 [I a1] [] (B false) []:=
 ab.path 14 [fb,fb,fb] [] 0 (by kernel_rfl) rfl (by exact trivial) (ca (df h0) (ca (df h0) (ca (df h0) na)))
def ai (n:Int):Bool:=decide (1≤n∧n≤3652059)
theorem dk (n:Int):ab Tryz.prog GL 37 [I n] [] (B (ai n)) []:=by
 unfold ai
 by_cases h:n≥1
 all_goals grind [nM,nL]
noncomputable def bf (x1:Int) (x2:Int) (x3:Int):SC:=
 ⟨[⟨98,bJ 28 [(0,I x1),(4,I x2),(5,I x3)],[.code (aa Tryz.f98 [1,1,1,0,1,0,0]), .inLoop (aa Tryz.f98 [1,1,1,0,1,0,0]), .inBlock 0, .code (aa Tryz.f98 [1,1,1,1])],{}⟩],[]⟩
theorem kc {X:Cx} {res:SV} {new:List (Option Vw)} {a1:Int} (hX:Fi X 98 [] res new) (h0:aj .i64 (a1-1)) (h1:(0:Int)≤(a1-1)) (h2:aj .i64 ((a1-1)/400)) (h3:aj .i64 (146097*((a1-1)/400))) (h4:aj .i64 (400*((a1-1)/400))) (h5:aj .i64 ((400*((a1-1)/400))+1)) (k:Ok X (bf a1 (146097*((a1-1)/400)) ((400*((a1-1)/400))+1))):
  Ok X (entry Tryz.prog 98 [I a1] []):=
 Ok.bg 27 [] [cN 28 [0,4,5]] [] 0 hX.P hX.gl hX.n0 (by kernel_rfl) (by kernel_rfl) (by exact trivial) (ca h0 (ca h1 (ca (show(0:Int)<400 from by decide) (ca h2 (ca h3 (ca h4 (ca h5 na))))))) k
theorem j_ {X:Cx} {res:SV} {new:List (Option Vw)} {x1 x2 x3:Int} {r5004:Bool} (hX:Fi X 98 [] res new) (h0:x3<x1) (h1:S 99 [I x3] [] (B r5004) []) (h2:aj .i64 (x2+365)) (h3:r5004=true) (h4:aj .i64 ((x2+365)+1)) (h5:aj .i64 (x3+1)) (k:Ok X (bf x1 ((x2+365)+1) (x3+1))):
  Ok X (bf x1 x2 x3):=
 Ok.bg 40 [tb, .call [] (B r5004) [],tb] [cN 28 [0,4,5]] [] 0 hX.P hX.gl hX.n0 (by kernel_rfl) (by kernel_rfl) (by exact trivial) (ca (dt h0) (ca h1 (ca h2 (ca h3 (ca h4 (ca h5 na)))))) k
theorem j9 {X:Cx} {res:SV} {new:List (Option Vw)} {x1 x2 x3:Int} {r5004:Bool} (hX:Fi X 98 [] res new) (h0:x3<x1) (h1:S 99 [I x3] [] (B r5004) []) (h2:aj .i64 (x2+365)) (h3:r5004=false) (h4:aj .i64 (x3+1)) (k:Ok X (bf x1 (x2+365) (x3+1))):
  Ok X (bf x1 x2 x3):=
 Ok.bg 36 [tb, .call [] (B r5004) [],fb] [cN 28 [0,4,5]] [] 0 hX.P hX.gl hX.n0 (by kernel_rfl) (by kernel_rfl) (by exact trivial) (ca (dt h0) (ca h1 (ca h2 (ca h3 (ca h4 na))))) k
theorem j8 {X:Cx} {x1 x2 x3:Int} (hX:Fi X 98 [] (I x2) []) (h0: ¬x3<x1):
  Ok X (bf x1 x2 x3):=
 Ok.fin 14 [fb] [] 0 hX (by kernel_rfl) rfl (ca (df h0) na)
theorem fF (y:Int) (h:1≤y):bY (y+1)=bY y+365+if lp y=true then 1 else 0:=by
 grind [bY,lp]
theorem rC {X:Cx} {y:Int} (hy:1≤y) (hy2:y≤10000) (hX:av X Tryz.prog GL 98 [] (I (bY y)) []):
  ∀ (m:Nat) (k:Int),y-k=(m:Int)→1≤k→Ok X (bf y (bY k) k)
 |0,k,hm,hk=>by
  grind [j8]
 |m+1,k,hm,hk=>by
  have hs:=fF k hk
  have hb:0≤bY k∧bY k≤4000000:=by unfold bY;omega
  have ih:=rC hy hy2 hX m (k+1) (by omega) (by omega)
  cases hl:lp k
  ·rw[hl]at hs
   refine j9 hX (by omega) (vK (by omega)) (by simp only[aj];omega) hl (by simp only[aj];omega) ?_
   simp_all
  ·rw[hl]at hs
   refine j_ hX (by omega) (vK (by omega)) (by simp only[aj];omega) hl (by simp only[aj];omega) (by simp only[aj];omega) ?_
   simp_all
theorem wC {y:Int} (hy:1≤y) (hy2:y≤10000):ab Tryz.prog GL 98 [I y] [] (I (bY y)) []:=by
 refine ab.of (by kernel_rfl) rfl trivial rfl (fun X hX=> ?_)
 refine kc hX (by simp only[aj];omega) (by omega) (by simp only[aj];omega) (by simp only[aj];omega) (by simp only[aj];omega) (by simp only[aj];omega) ?_
 have h:=rC hy hy2 hX (y-(400*((y-1)/400)+1)).toNat (400*((y-1)/400)+1) (by omega) (by omega)
 grind [bY]
theorem iZ {a1 a2 a3:Int} {r4:Bool} (h0:S 152 [.agg [I a1,I a2,I a3]] [] (B r4) []) (h1:r4=false):
  S 112 [.agg [I a1,I a2,I a3]] [] (.af [I 0,I 3]) []:=
 ab.path 24 [.call [] (B r4) [],tb] [] 1 (by kernel_rfl) rfl (by exact trivial) (ca h0 (ca (nt h1) na))
noncomputable def bH (x1:Int) (x2:Int) (x3:Int) (x4:Int) (x5:Int):SC:=
 ⟨[⟨112,bJ 30 [(1, .ptr 0 0),(5,I x1),(6,I x2)],[.code (aa Tryz.f112 [1,1,1,1,0,1,0,0]), .inLoop (aa Tryz.f112 [1,1,1,1,0,1,0,0]), .inBlock 0, .code (aa Tryz.f112 [1,1,1,1,1])],{}⟩],[some (.box true [I x3,I x4,I x5])]⟩
theorem iY {X:Cx} {res:SV} {new:List (Option Vw)} {a1 a2 a3:Int} {r4:Bool} {r5:Int} (hX:Fi X 112 [] res new) (h0:S 152 [.agg [I a1,I a2,I a3]] [] (B r4) []) (h1:r4=true) (h2:S 98 [I a1] [] (I r5) []) (h3:aj .i64 (r5+a3)) (k:Ok X (bH (r5+a3) 1 a1 a2 a3)):
  Ok X (entry Tryz.prog 112 [.agg [I a1,I a2,I a3]] []):=
 Ok.bg 32 [.call [] (B r4) [],fb, .draw 5 [] 0, .call [] (I r5) []] [cN 30 [1,5,6]] [.ae 0] 0 hX.P hX.gl hX.n0 (by kernel_rfl) (by kernel_rfl) (by exact⟨rfl,trivial⟩) (ca h0 (ca (nf h1) (ca h2 (ca h3 na)))) k
theorem iX {X:Cx} {res:SV} {new:List (Option Vw)} {x1 x2 x3 x4 x5 r5006:Int} (hX:Fi X 112 [] res new) (h0:x2<x4) (h1:S 74 [I x3,I x2] [] (I r5006) []) (h2:aj .i64 (x1+r5006)) (h3:aj .i64 (x2+1)) (k:Ok X (bH (x1+r5006) (x2+1) x3 x4 x5)):
  Ok X (bH x1 x2 x3 x4 x5):=
 Ok.bg 28 [tb, .call [] (I r5006) []] [cN 30 [1,5,6]] [.ae 0] 0 hX.P hX.gl hX.n0 (by kernel_rfl) (by kernel_rfl) (by exact⟨rfl,trivial⟩) (ca (dt h0) (ca h1 (ca h2 (ca h3 na)))) k
theorem iW {X:Cx} {x1 x2 x3 x4 x5:Int} (hX:Fi X 112 [] (.af [I x1,I 0]) []) (h0: ¬x2<x4):
  Ok X (bH x1 x2 x3 x4 x5):=
 Ok.fin 16 [fb] [] 1 hX (by kernel_rfl) rfl (ca (df h0) na)
def mL (y m d:Int):Int:=bY y+d+cq y (m-1).toNat
theorem qj {X:Cx} {y m d:Int} (hy:1≤y) (hy2:y≤9999) (hm:1≤m) (hm2:m≤12) (hd:1≤d) (hd2:d≤31) (hX:av X Tryz.prog GL 112 [] (.af [I (mL y m d),I 0]) []):
  ∀ (j k:Nat),(m-1-k:Int)=(j:Int)→Ok X (bH (bY y+d+cq y k) ((k:Int)+1) y m d)
 |0,k,hj=>by
  have e:k=(m-1).toNat:=by omega
  subst e
  exact iW hX (by omega)
 |j+1,k,hj=>by
  have ih:=qj hy hy2 hm hm2 hd hd2 hX j (k+1) (by omega)
  have hb:0≤bY y∧bY y≤4000000:=by unfold bY;omega
  have h1:=jH y k
  have h2:=ib y ((k:Int)+1)
  refine iX hX (by omega) (fU (by omega)) (by simp only[aj];omega) (by simp only[aj];omega) ?_
  grind [bY,len,cq]
theorem Bd {y m d:Int} (h:dL y m d=true):ab Tryz.prog GL 112 [.agg [I y,I m,I d]] [] (.af [I (mL y m d),I 0]) []:=by
 have h':=h
 unfold dL at h'
 rw[decide_eq_true_eq]at h'
 obtain⟨a1,a2,a3,a4,a5,a6⟩:=h'
 have h2:=ib y m
 have hb:0≤bY y∧bY y≤4000000:=by unfold bY;omega
 refine ab.of (by kernel_rfl) rfl trivial rfl (fun X hX=> ?_)
 refine iY hX (G9 y m d) h (wC a1 (by omega)) (by simp only[aj];omega) ?_
 have:=qj a1 a2 a3 a4 a5 (by omega) hX (m-1).toNat 0 (by omega)
 simpa[cq]using this
theorem yc {y m d:Int} (h:dL y m d=false):ab Tryz.prog GL 112 [.agg [I y,I m,I d]] [] (.af [I 0,I 3]) []:=
 iZ (G9 y m d) h
end Go.Proofs.YtelidogcomffkaaGreatDoor
namespace Go.Proofs.YtelidogcomffkaaGreatDoor
open Go Go.Sx
variable [Env]
theorem yK {a1 a2 a3:Int} {res:SV} (H:(a1≥1→(a1≤9999→(a3≥1→(0:Int)≤a1∧B (decide (a3≤(len a1 a2)))=res)∧(¬a3≥1→B false=res))∧(¬a1≤9999→B false=res))∧(¬a1≥1→B false=res)):
  S 217 [.agg [I a1,I a2,I a3]] [] res []:=by
 refine ab.st fun X hX=> ?_
 obtain⟨H1,H2⟩:=H
 by_cases h0:a1≥1
 ·obtain⟨H1,H2⟩:=H1 h0
  by_cases h1:a1≤9999
  ·obtain⟨H1,H2⟩:=H1 h1
   by_cases h2:a3≥1
   ·obtain⟨h3,rfl⟩:=H1 h2
    exact hX.e [d_ 21,t_ (dt h0),t_ (dt h0),t_ (dt h0),t_ (dt h0),t_ (dt h1),t_ (dt h1),t_ (dt h1),t_ (dt h1),t_ (dt h2),t_ (dt h2),t_ (dt h2),t_ (dt h2),t_ (dt h2),t_ (dt h2),t_ (dt h2),c_ [] (show S 88 [I a1,I a2] [] (I (len a1 a2)) []from kq h3),t_ (dt h2),t_ (dt h2)]
   ·obtain rfl:=H2 h2
    exact hX.e [d_ 21,t_ (dt h0),t_ (dt h0),t_ (dt h0),t_ (dt h0),t_ (dt h1),t_ (dt h1),t_ (dt h1),t_ (dt h1),f_ (df h2),f_ (df h2),f_ (df h2),f_ (df h2),f_ (df h2),f_ (df h2),f_ (df h2),f_ (df h2),f_ (df h2)]
  ·obtain rfl:=H2 h1
   exact hX.e [d_ 21,t_ (dt h0),t_ (dt h0),t_ (dt h0),t_ (dt h0),f_ (df h1),f_ (df h1),f_ (df h1),f_ (df h1),f_ rf,f_ rf,f_ rf,f_ rf,f_ rf,f_ rf,f_ rf,f_ rf,f_ rf]
 ·obtain rfl:=H2 h0
  exact hX.e [d_ 21,f_ (df h0),f_ (df h0),f_ (df h0),f_ (df h0),f_ rf,f_ rf,f_ rf,f_ rf,f_ rf,f_ rf,f_ rf,f_ rf,f_ rf,f_ rf,f_ rf,f_ rf,f_ rf]
theorem HA (y m d:Int):ab Tryz.prog GL 217 [.agg [I y,I m,I d]] [] (B (dL y m d)) []:=by
 have hl:d≥1→d≤len y m→1≤m∧m≤12:=fun h1 h2=>by
  unfold len at h2
  split at h2<;>omega
 refine yK ⟨fun h1=>⟨fun h2=>⟨fun h3=>⟨by omega, ?_⟩,fun h3=> ?_⟩,fun h2=> ?_⟩,fun h1=> ?_⟩
 ·rw[show dL y m d=decide (d≤len y m)by
   unfold dL
   rw[decide_eq_decide]
   constructor
   ·intro h;omega
   ·intro h;have:=hl h3 h;omega]
 all_goals (rw[show dL y m d=false by unfold dL;rw[decide_eq_false_iff_not];omega])
theorem um {a1 a2 a3:Int} {r4:Bool} (h0:S 217 [.agg [I a1,I a2,I a3]] [] (B r4) []) (h1:r4=false):
  S 180 [.agg [I a1,I a2,I a3]] [] (.af [I 0,I 3]) []:=
 ab.path 19 [.call [] (B r4) [],tb] [] 1 (by kernel_rfl) rfl (by exact trivial) (ca h0 (ca (nt h1) na))
noncomputable def c8 (x1:Int) (x2:Int) (x3:Int) (x4:Int) (x5:Int):SC:=
 ⟨[⟨180,bJ 40 [(1, .ptr 0 0),(5,I x1),(6,I x2)],[.code (aa Tryz.f180 [1,1,1,1,0,1,0,0]), .inLoop (aa Tryz.f180 [1,1,1,1,0,1,0,0]), .inBlock 0, .code (aa Tryz.f180 [1,1,1,1,1])],{}⟩],[some (.box true [I x3,I x4,I x5])]⟩
theorem uk {X:Cx} {res:SV} {new:List (Option Vw)} {a1 a2 a3:Int} {r4:Bool} (hX:Fi X 180 [] res new) (h0:S 217 [.agg [I a1,I a2,I a3]] [] (B r4) []) (h1:r4=true) (h2:Ir (a1-1)) (h3:Ir ((a1-1)*365)) (h4:(0:Int)≤(a1-1)) (h5:Ir ((a1-1)/4)) (h6:Ir (((a1-1)*365)+((a1-1)/4))) (h7:Ir ((a1-1)/100)) (h8:Ir ((((a1-1)*365)+((a1-1)/4))-((a1-1)/100))) (h9:Ir ((a1-1)/400)) (h10:Ir (((((a1-1)*365)+((a1-1)/4))-((a1-1)/100))+((a1-1)/400))) (h11:Ir ((((((a1-1)*365)+((a1-1)/4))-((a1-1)/100))+((a1-1)/400))+a3)) (k:Ok X (c8 ((((((a1-1)*365)+((a1-1)/4))-((a1-1)/100))+((a1-1)/400))+a3) 1 a1 a2 a3)):
  Ok X (entry Tryz.prog 180 [.agg [I a1,I a2,I a3]] []):=
 Ok.bg 47 [.call [] (B r4) [],fb] [cN 40 [1,5,6]] [.ae 0] 0 hX.P hX.gl hX.n0 (by kernel_rfl) (by kernel_rfl) (by exact⟨rfl,trivial⟩) (ca h0 (ca (nf h1) (ca h2 (ca h3 (ca h4 (ca (show(0:Int)<4 from by decide) (ca h5 (ca h6 (ca h4 (ca (show(0:Int)<100 from by decide) (ca h7 (ca h8 (ca h4 (ca (show(0:Int)<400 from by decide) (ca h9 (ca h10 (ca h11 na))))))))))))))))) k
theorem uj {X:Cx} {res:SV} {new:List (Option Vw)} {x1 x2 x3 x4 x5:Int} (hX:Fi X 180 [] res new) (h0:x2<x4) (h1:(0:Int)≤x3) (h2:Ir (x1+(len x3 x2))) (h3:Ir (x2+1)) (k:Ok X (c8 (x1+(len x3 x2)) (x2+1) x3 x4 x5)):
  Ok X (c8 x1 x2 x3 x4 x5):=
 Ok.bg 28 [tb, .call [] (I (len x3 x2)) []] [cN 40 [1,5,6]] [.ae 0] 0 hX.P hX.gl hX.n0 (by kernel_rfl) (by kernel_rfl) (by exact⟨rfl,trivial⟩) (ca (dt h0) (ca (show S 88 [I x3,I x2] [] (I (len x3 x2)) []from kq h1) (ca h2 (ca h3 na)))) k
theorem ui {X:Cx} {x1 x2 x3 x4 x5:Int} (hX:Fi X 180 [] (.af [I x1,I 0]) []) (h0: ¬x2<x4):
  Ok X (c8 x1 x2 x3 x4 x5):=
 Ok.fin 16 [fb] [] 1 hX (by kernel_rfl) rfl (ca (df h0) na)
theorem qx {X:Cx} {y m d:Int} (hy:1≤y) (hy2:y≤9999) (hm:1≤m) (hm2:m≤12) (hd:1≤d) (hd2:d≤31) (hX:av X Tryz.prog GL 180 [] (.af [I (mL y m d),I 0]) []):
  ∀ (j k:Nat),(m-1-k:Int)=(j:Int)→Ok X (c8 (bY y+d+cq y k) ((k:Int)+1) y m d)
 |0,k,hj=>by
  have e:k=(m-1).toNat:=by omega
  subst e
  exact ui hX (by omega)
 |j+1,k,hj=>by
  have ih:=qx hy hy2 hm hm2 hd hd2 hX j (k+1) (by omega)
  have hb:0≤bY y∧bY y≤4000000:=by unfold bY;omega
  have h1:=jH y k
  have h2:=ib y ((k:Int)+1)
  refine uj hX (by omega) (by omega) (by simp only[aj];omega) (by simp only[aj];omega) ?_
  rw[show bY y+d+cq y (k+1)=bY y+d+cq y k+len y ((k:Int)+1)by
   show bY y+d+(cq y k+len y ((k+1:Nat):Int))=_
   rw[show(((k+1:Nat)):Int)=(k:Int)+1 by omega];omega]at ih
  simp_all
theorem BS {y m d:Int} (h:dL y m d=true):ab Tryz.prog GL 180 [.agg [I y,I m,I d]] [] (.af [I (mL y m d),I 0]) []:=by
 have h':=h
 unfold dL at h'
 rw[decide_eq_true_eq]at h'
 obtain⟨a1,a2,a3,a4,a5,a6⟩:=h'
 have h2:=ib y m
 have hb:0≤bY y∧bY y≤4000000:=by unfold bY;omega
 refine ab.of (by kernel_rfl) rfl trivial rfl (fun X hX=> ?_)
 have:=qx a1 a2 a3 a4 a5 (by omega) hX (m-1).toNat 0 (by omega)
 refine uk hX (HA y m d) h (by simp only[aj];omega) (by simp only[aj];omega) (by omega) (by simp only[aj];omega) (by simp only[aj];omega) (by simp only[aj];omega) (by simp only[aj];omega) (by simp only[aj];omega) (by simp only[aj];omega) (by simp only[aj];omega) ?_
 rw[show bY y+d+cq y 0=((((((y-1)*365)+((y-1)/4))-((y-1)/100))+((y-1)/400))+d)by simp only[cq];unfold bY;omega]at this
 exact this
theorem yP {y m d:Int} (h:dL y m d=false):ab Tryz.prog GL 180 [.agg [I y,I m,I d]] [] (.af [I 0,I 3]) []:=
 um (HA y m d) h
theorem oU {a1:Int} (h0:a1<1):
  S 72 [I a1] [] (.af [.agg [I 0,I 0,I 0],I 3]) []:=
 ab.path 22 [tb,tb,tb,tb] [] 1 (by kernel_rfl) rfl (by exact trivial) (ca (dt h0) (ca (dt h0) (ca (dt h0) (ca rt na))))
theorem oT {a1:Int} (h0: ¬a1<1) (h1:a1>3652059):
  S 72 [I a1] [] (.af [.agg [I 0,I 0,I 0],I 3]) []:=
 ab.path 22 [fb,fb,fb,tb] [] 1 (by kernel_rfl) rfl (by exact trivial) (ca (df h0) (ca (df h0) (ca (df h0) (ca (dt h1) na))))
noncomputable def bp (x1:Int) (x2:Int) (x3:Int) (x4:Int) (x5:Int) (x6:Int):SC:=
 ⟨[⟨72,bJ 50 [(0,I x1),(2, .ptr 0 0),(4,I x2),(5,I x3)],[.code (aa Tryz.f72 [1,1,1,1,0,0,0]), .inLoop (aa Tryz.f72 [1,1,1,1,0,0,0]), .inBlock 0, .code (aa Tryz.f72 [1,1,1,1,1])],{}⟩],[some (.box true [I x4,I x5,I x6])]⟩
theorem oS {X:Cx} {res:SV} {new:List (Option Vw)} {a1:Int} (hX:Fi X 72 [] res new) (h0: ¬a1<1) (h1: ¬a1>3652059) (k:Ok X (bp a1 1 10000 0 0 0)):
  Ok X (entry Tryz.prog 72 [I a1] []):=
 Ok.bg 28 [fb,fb,fb,fb] [cN 50 [0,2,4,5]] [.ae 0] 0 hX.P hX.gl hX.n0 (by kernel_rfl) (by kernel_rfl) (by exact⟨rfl,trivial⟩) (ca (df h0) (ca (df h0) (ca (df h0) (ca (df h1) na)))) k
theorem oR {X:Cx} {res:SV} {new:List (Option Vw)} {x1 x2 x3 x4 x5 x6 r5007:Int} (hX:Fi X 72 [] res new) (h0:Ir (x3-x2)) (h1:(x3-x2)>1) (h2:Ir (x2+x3)) (h3:(0:Int)≤(x2+x3)) (h4:Ir ((x2+x3)/2)) (h5:S 98 [I ((x2+x3)/2)] [] (I r5007) []) (h6:r5007<x1) (k:Ok X (bp x1 ((x2+x3)/2) x3 x4 x5 x6)):
  Ok X (bp x1 x2 x3 x4 x5 x6):=
 Ok.bg 33 [tb, .call [] (I r5007) [],tb] [cN 50 [0,2,4,5]] [.ae 0] 0 hX.P hX.gl hX.n0 (by kernel_rfl) (by kernel_rfl) (by exact⟨rfl,trivial⟩) (ca h0 (ca (dt h1) (ca h2 (ca h3 (ca (show(0:Int)<2 from by decide) (ca h4 (ca h5 (ca (dt h6) na)))))))) k
theorem oQ {X:Cx} {res:SV} {new:List (Option Vw)} {x1 x2 x3 x4 x5 x6 r5007:Int} (hX:Fi X 72 [] res new) (h0:Ir (x3-x2)) (h1:(x3-x2)>1) (h2:Ir (x2+x3)) (h3:(0:Int)≤(x2+x3)) (h4:Ir ((x2+x3)/2)) (h5:S 98 [I ((x2+x3)/2)] [] (I r5007) []) (h6: ¬r5007<x1) (k:Ok X (bp x1 x2 ((x2+x3)/2) x4 x5 x6)):
  Ok X (bp x1 x2 x3 x4 x5 x6):=
 Ok.bg 33 [tb, .call [] (I r5007) [],fb] [cN 50 [0,2,4,5]] [.ae 0] 0 hX.P hX.gl hX.n0 (by kernel_rfl) (by kernel_rfl) (by exact⟨rfl,trivial⟩) (ca h0 (ca (dt h1) (ca h2 (ca h3 (ca (show(0:Int)<2 from by decide) (ca h4 (ca h5 (ca (df h6) na)))))))) k
noncomputable def ch (x1:Int) (x2:Int) (x3:Int) (x4:Int) (x5:Int) (x6:Int):SC:=
 ⟨[⟨72,bJ 50 [(2, .ptr 0 0),(4,I x1),(7,I x2),(8,I x3)],[.code (aa Tryz.f72 [1,1,1,1,1,1,1,0,0,0]), .inLoop (aa Tryz.f72 [1,1,1,1,1,1,1,0,0,0]), .inBlock 2, .code (aa Tryz.f72 [1,1,1,1,1,1,1,1])],{}⟩],[some (.box true [I x4,I x5,I x6])]⟩
theorem oO {X:Cx} {res:SV} {new:List (Option Vw)} {x1 x2 x3 x4 x5 x6 r5007:Int} (hX:Fi X 72 [] res new) (h0:Ir (x3-x2)) (h1: ¬(x3-x2)>1) (h2:S 98 [I x2] [] (I r5007) []) (h3:Ir (x1-r5007)) (k:Ok X (ch x2 (x1-r5007) 1 x4 x5 x6)):
  Ok X (bp x1 x2 x3 x4 x5 x6):=
 Ok.bg 25 [fb, .call [] (I r5007) []] [cN 50 [2,4,7,8]] [.ae 0] 0 hX.P hX.gl hX.n0 (by kernel_rfl) (by kernel_rfl) (by exact⟨rfl,trivial⟩) (ca h0 (ca (df h1) (ca h2 (ca h3 na)))) k
theorem oM {X:Cx} {res:SV} {new:List (Option Vw)} {x1 x2 x3 x4 x5 x6:Int} (hX:Fi X 72 [] res new) (h0:(0:Int)≤x1) (h1:x2>(len x1 x3)) (h2:Ir (x2-(len x1 x3))) (h3:Ir (x3+1)) (k:Ok X (ch x1 (x2-(len x1 x3)) (x3+1) x4 x5 x6)):
  Ok X (ch x1 x2 x3 x4 x5 x6):=
 Ok.bg 28 [.call [] (I (len x1 x3)) [],tb, .call [] (I (len x1 x3)) []] [cN 50 [2,4,7,8]] [.ae 0] 0 hX.P hX.gl hX.n0 (by kernel_rfl) (by kernel_rfl) (by exact⟨rfl,trivial⟩) (ca (show S 74 [I x1,I x3] [] (I (len x1 x3)) []from fU h0) (ca (dt h1) (ca (show S 74 [I x1,I x3] [] (I (len x1 x3)) []from fU h0) (ca h2 (ca h3 na))))) k
theorem oK {X:Cx} {x1 x2 x3 x4 x5 x6:Int} (hX:Fi X 72 [] (.af [.agg [I x1,I x3,I x2],I 0]) []) (h0:(0:Int)≤x1) (h1: ¬x2>(len x1 x3)):
  Ok X (ch x1 x2 x3 x4 x5 x6):=
 Ok.fin 20 [.call [] (I (len x1 x3)) [],fb] [] 1 hX (by kernel_rfl) rfl (ca (show S 74 [I x1,I x3] [] (I (len x1 x3)) []from fU h0) (ca (df h1) na))
theorem fH {a b:Int} (h:a≤b):bY a≤bY b:=by unfold bY;omega
theorem Fs {n y:Int} (h1:1≤n) (h2:n≤3652059) (a:bY y<n) (b:n≤bY (y+1)):(fc n).1=y∧(fc n).2=n-bY y-1:=by
 obtain⟨c1,c2,c3,c4,c5⟩:=qm h1 h2
 rw[wM]at c4
 have e:=fF _ c1
 have:(fc n).1=y:=by
  rcases Int.lt_trichotomy (fc n).1 y with h|h|h
  ·have:=fH (a:=(fc n).1+1) (b:=y) (by omega);omega
  ·exact h
  ·have:=fH (a:=y+1) (b:=(fc n).1) (by omega);omega
 grind
theorem Bc {X:Cx} {y:Int} {x4 x5 x6:Int} (hy:0≤y): ∀ (j m:Nat) (r:Int),j+m=13→1≤m→0≤r→r<cq y 12-cq y (m-1)→
  av X Tryz.prog GL 72 [] (.af [.agg [I y,I (ofMon y j m r).1,I (ofMon y j m r).2],I 0]) []→Ok X (ch y (r+1) (m:Int) x4 x5 x6)
 |0,m,r,hj,hm,hr,hl,hX=>by
  grind
 |j+1,m,r,hj,hm,hr,hl,hX=>by
  have e:cq y m=cq y (m-1)+len y (m:Int):=by
   obtain⟨k,rfl⟩: ∃ k,m=k+1:=⟨m-1,by omega⟩
   rfl
  have hle:=ib y (m:Int)
  have h12:=jH y 12
  have h0:=(jH y (m-1)).2
  unfold ofMon at hX
  split at hX
  ·rename_i h
   refine oM hX hy (by omega) (by simp only[aj];omega) (by simp only[aj];omega) ?_
   have:=Bc (x4:=x4) (x5:=x5) (x6:=x6) hy j (m+1) (r-len y (m:Int)) (by omega) (by omega) (by omega) (by simp only[Nat.add_sub_cancel];omega) hX
   grind
  grind [oK]
theorem IB {X:Cx} {n x4 x5 x6:Int} (h1:1≤n) (h2:n≤3652059) (hX:av X Tryz.prog GL 72 [] (.af [.agg [I (dT n).1,I (dT n).2.1,I (dT n).2.2],I 0]) []):
  ∀ (m:Nat) (lo hi:Int),hi-lo≤(m:Int)→1≤lo→lo<hi→hi≤10000→bY lo<n→n≤bY hi→Ok X (bp n lo hi x4 x5 x6):=by
 intro m
 induction m with
 |zero=>intro lo hi h3 h4 h5;omega
 |succ m ih=>
  intro lo hi h3 h4 h5 h6 h7 h8
  by_cases h:hi-lo>1
  ·have hm:1≤(lo+hi)/2∧(lo+hi)/2≤10000:=by omega
   by_cases hb:bY ((lo+hi)/2)<n
   ·exact oR hX (by simp only[aj];omega) h (by simp only[aj];omega) (by omega) (by simp only[aj];omega) (wC hm.1 hm.2) hb (ih _ _ (by omega) (by omega) (by omega) (by omega) hb h8)
   ·exact oQ hX (by simp only[aj];omega) h (by simp only[aj];omega) (by omega) (by simp only[aj];omega) (wC hm.1 hm.2) hb (ih _ _ (by omega) (by omega) (by omega) (by omega) h7 (by omega))
  ·have e:hi=lo+1:=by omega
   subst e
   obtain⟨e1,e2⟩:=Fs h1 h2 h7 h8
   obtain⟨a1,a2,a3,a4,a5⟩:=qm h1 h2
   have hb:0≤bY lo∧bY lo≤4000000:=by unfold bY;omega
   refine oO hX (by simp only[aj];omega) h (wC (by omega) (by omega)) (by simp only[aj];omega) ?_
   have:=Bc (X:=X) (y:=lo) (x4:=x4) (x5:=x5) (x6:=x6) (by omega) 12 1 (n-bY lo-1) rfl (by omega) (by omega) (by rw[e1]at a4;rw[←e2];simpa[cq]using a4) (by
    unfold dT at hX
    rw[e1,e2]at hX
    exact hX)
   grind
def cY (n:Int):Int:=if ai n=true then(dT n).1 else 0
def cM (n:Int):Int:=if ai n=true then(dT n).2.1 else 0
def cD (n:Int):Int:=if ai n=true then(dT n).2.2 else 0
def cE (n:Int):Int:=if ai n=true then 0 else 3
theorem aP {n:Int}:ai n=true↔1≤n∧n≤3652059:=by unfold ai;rw[decide_eq_true_eq]
theorem BE {n:Int}:ai n=false↔ ¬(1≤n∧n≤3652059):=by unfold ai;rw[decide_eq_false_iff_not]
theorem fg (n:Int):ab Tryz.prog GL 60 [I n] [] (.af [.agg [I (cY n),I (cM n),I (cD n)],I (cE n)]) []:=by
 unfold cY cM cD cE
 by_cases h:ai n=true
 ·simp only[h,if_true];rw[aP]at h;exact Mo h.1 h.2
 ·simp only[h];rw[aP]at h;exact BQ h
theorem rX (n:Int):ab Tryz.prog GL 72 [I n] [] (.af [.agg [I (cY n),I (cM n),I (cD n)],I (cE n)]) []:=by
 unfold cY cM cD cE
 by_cases h:ai n=true
 ·simp only[h,if_true];rw[aP]at h
  refine ab.of (by kernel_rfl) rfl trivial rfl (fun X hX=> ?_)
  exact oS hX (by omega) (by omega) (IB h.1 h.2 hX 9999 1 10000 (by omega) (by omega) (by omega) (by omega) (by unfold bY;omega) (by unfold bY;omega))
 grind [oU,oT,aP]
theorem ET (n:Int):0≤cY n:=by
 unfold cY
 split
 ·rename_i h;rw[aP]at h;obtain⟨M, -, -, -,h1, -⟩:=yL h.1 h.2;omega
 ·omega
theorem cL {n:Int} (h:ai n=true):cE n=0∧1≤cM n∧cM n≤12∧1≤cY n∧cY n≤9999∧1≤cD n∧cD n≤len (cY n) (cM n)∧cD n≤31∧n=bY (cY n)+cq (cY n) (cM n-1).toNat+cD n:=by
 have h':=aP.1 h
 obtain⟨M,e,h1,h2,h3,h4,h5,h6,h7⟩:=yL h'.1 h'.2
 have e1:cM n=(M:Int):=by unfold cM;rw[if_pos h];exact e
 have e2:cY n=(dT n).1:=by unfold cY;rw[if_pos h]
 have e3:cD n=(dT n).2.2:=by unfold cD;rw[if_pos h]
 have:=(ib (cY n) (cM n)).1
 grind [cE]
end Go.Proofs.YtelidogcomffkaaGreatDoor
namespace Go.Proofs.YtelidogcomffkaaGreatDoor
open Go Go.Sx
variable [Env]
def kA (n d:Int):Int×Int×Int:=Br n.toNat d.toNat
abbrev sf (n:Int):Prop:=0≤n∧n<9223372036854775808
abbrev Ms (n:Int):Prop:=0<n∧n<9223372036854775808
abbrev my (a b:Int):Int:=if a<b then b else a
abbrev aO (a b:Int):Int:=if b<a then b else a
theorem py {n d:Int} (hn:sf n) (hd:Ms d):ab Tryz.prog GL 191 [I n,I d] [] (RT (kA n d)) []:=by
 have:=G1 (n:=n.toNat) (d:=d.toNat) (by omega) (by omega) (by omega)
 rw[show((n.toNat:Nat):Int)=n by omega,show((d.toNat:Nat):Int)=d by omega]at this
 exact this
theorem iK {n d:Int} (hn:sf n) (hd:Ms d):ab Tryz.prog GL 117 [I n,I d] [] (RT (kA n d)) []:=by
 have:=A6 (n:=n.toNat) (d:=d.toNat) (by omega) (by omega) (by omega)
 rw[show((n.toNat:Nat):Int)=n by omega,show((d.toNat:Nat):Int)=d by omega]at this
 exact this
def aF (n:Int):Bool:=ai n&&(cD n==len (cY n) (cM n))
def ck (a b:Int):Int:=if ai a=true∧ai b=true then if a>b then 4 else 0 else 3
theorem pQ {n:Int}:cE n=0↔ai n=true:=by unfold cE;split<;>simp_all
theorem k9 {a1:Int} {res:SV} (H:((cE a1)≠0→B false=res)∧((cE a1)=0→B ((cD a1)==(len (cY a1) (cM a1)))=res)):
  S 111 [I a1] [] res []:=by
 refine ab.st fun X hX=> ?_
 obtain⟨H1,H2⟩:=H
 refine hX.go [c_ [] (rX a1)] ?_
 by_cases h0:(cE a1)=0
 ·obtain rfl:=H2 h0
  exact hX.e [f_ (bne_eq_false_iff_eq.2 h0),d_ 7,c_ [] (show S 74 [I (cY a1),I (cM a1)] [] (I (len (cY a1) (cM a1))) []from fU (ET _))]
 ·obtain rfl:=H1 h0
  exact hX.e [t_ (bne_iff_ne.2 h0)]
theorem Be (n:Int):ab Tryz.prog GL 111 [I n] [] (B (aF n)) []:=by
 grind [pQ,k9,aF]
theorem wL {a1 a2 a3:Int} {res:SV} (H:(0:Int)≤a1∧(SV.agg [I a1,I a2,I (len a1 a2)])=res):
  S 179 [.agg [I a1,I a2,I a3]] [] res []:=by
 refine ab.st fun X hX=> ?_
 obtain⟨h0,rfl⟩:=H
 exact hX.e [c_ [] (show S 88 [I a1,I a2] [] (I (len a1 a2)) []from kq h0)]
theorem Ga {y m d:Int} (h:0≤y):ab Tryz.prog GL 179 [.agg [I y,I m,I d]] [] (.agg [I y,I m,I (len y m)]) []:=
 wL ⟨h,rfl⟩
theorem uT {a1:Int} {res:SV} (H:((cE a1)≠0→B false=res)∧((cE a1)=0→B (((cY a1)==(cY a1))&&(((cM a1)==(cM a1))&&(((cD a1)==(len (cY a1) (cM a1)))&&true)))=res)):
  S 238 [I a1] [] res []:=by
 refine ab.st fun X hX=> ?_
 obtain⟨H1,H2⟩:=H
 refine hX.go [i_,c_ [] (fg a1)] ?_
 by_cases h0:(cE a1)=0
 ·obtain rfl:=H2 h0
  exact hX.e [f_ (bne_eq_false_iff_eq.2 h0),i_,d_ 3,c_ [] (show S 179 [.agg [I (cY a1),I (cM a1),I (cD a1)]] [] (.agg [I (cY a1),I (cM a1),I (len (cY a1) (cM a1))]) []from Ga (ET _))]
 ·obtain rfl:=H1 h0
  exact hX.e [t_ (bne_iff_ne.2 h0)]
theorem v3 (n:Int):ab Tryz.prog GL 238 [I n] [] (B (aF n)) []:=by
 grind [pQ,aF,uT]
theorem nx {a1 a2:Int} {res:SV} (H:((ai a1)=false→I 3=res)∧((ai a1)=true→((ai a2)=false→I 3=res)∧((ai a2)=true→(a1>a2→I 4=res)∧(¬a1>a2→I 0=res)))):
  S 113 [I a1,I a2] [] res []:=by
 refine ab.st fun X hX=> ?_
 obtain⟨H1,H2⟩:=H
 refine hX.go [c_ [] (dk a1),c_ [] (dk a2)] ?_
 rcases aq (ai a1)with h0|h0
 ·obtain⟨H1,H2⟩:=H2 h0
  refine hX.go [f_ (nf h0),f_ (nf h0),f_ (nf h0)] ?_
  rcases aq (ai a2)with h1|h1
  ·obtain⟨H1,H2⟩:=H2 h1
   refine hX.go [f_ (nf h1)] ?_
   by_cases h2:a1>a2
   ·obtain rfl:=H1 h2
    exact hX.e [t_ (dt h2)]
   ·obtain rfl:=H2 h2
    exact hX.e [f_ (df h2)]
  ·obtain rfl:=H1 h1
   exact hX.e [t_ (nt h1)]
 ·obtain rfl:=H1 h0
  exact hX.e [t_ (nt h0),t_ (nt h0),t_ (nt h0),t_ rt]
theorem HL (a b:Int):ab Tryz.prog GL 113 [I a,I b] [] (I (ck a b)) []:=by
 grind [nx,ck]
theorem ny {a1 a2 a3 a4:Int} {res:SV} (H:((aF a1)=true→B (a3==2)=res)∧((aF a1)=false→B false=res)):
  S 114 [I a1, .agg [I a2,I a3,I a4]] [] res []:=by
 refine ab.st fun X hX=> ?_
 obtain⟨H1,H2⟩:=H
 refine hX.go [c_ [] (Be a1)] ?_
 rcases aq (aF a1)with h0|h0
 ·obtain rfl:=H1 h0
  exact hX.e [t_ h0,t_ h0,t_ h0,t_ h0]
 ·obtain rfl:=H2 h0
  exact hX.e [f_ h0,f_ h0,f_ h0,f_ h0]
theorem Kp {n y m d:Int}:ab Tryz.prog GL 114 [I n, .agg [I y,I m,I d]] [] (B (aF n&&(m==2))) []:=
 ny ⟨fun h=>by simp[h],fun h=>by simp[h]⟩
theorem k8 {a1 a2 a3 a4 a5 a6 a7 a8:Int} {res:SV} (H:Ir (a4-a1)∧Ir (360*(a4-a1))∧Ir (a5-a2)∧Ir (30*(a5-a2))∧Ir ((360*(a4-a1))+(30*(a5-a2)))∧Ir (a8-a7)∧Ir (((360*(a4-a1))+(30*(a5-a2)))+(a8-a7))∧((((360*(a4-a1))+(30*(a5-a2)))+(a8-a7))<0→RT (kA 0 360)=res)∧(¬(((360*(a4-a1))+(30*(a5-a2)))+(a8-a7))<0→sf (((360*(a4-a1))+(30*(a5-a2)))+(a8-a7))∧RT (kA (((360*(a4-a1))+(30*(a5-a2)))+(a8-a7)) 360)=res)):
  S 115 [.agg [I a1,I a2,I a3], .agg [I a4,I a5,I a6],I a7,I a8] [] res []:=by
 refine ab.st fun X hX=> ?_
 obtain⟨h0,h1,h2,h3,h4,h5,h6,H1,H2⟩:=H
 refine hX.go [q_ h0,q_ h1,q_ h2,q_ h3,q_ h4,q_ h5,q_ h6] ?_
 by_cases h7:(((360*(a4-a1))+(30*(a5-a2)))+(a8-a7))<0
 ·obtain rfl:=H1 h7
  exact hX.e [t_ (dt h7),c_ [] (show S 117 [I 0,I 360] [] (RT (kA 0 360)) []from iK (by decide) (by decide))]
 ·obtain⟨h8,rfl⟩:=H2 h7
  exact hX.e [f_ (df h7),c_ [] (show S 117 [I (((360*(a4-a1))+(30*(a5-a2)))+(a8-a7)),I 360] [] (RT (kA (((360*(a4-a1))+(30*(a5-a2)))+(a8-a7)) 360)) []from iK h8 (by decide))]
def n7 (ya ma yb mb d1 d2:Int):Int:=360*(yb-ya)+30*(mb-ma)+(d2-d1)
def p7 (n:Int):Int×Int×Int:=kA (if n<0 then 0 else n) 360
def CZ (ya ma yb mb d1 d2:Int):Prop:=(-20000≤ya∧ya≤20000)∧(-20000≤ma∧ma≤20000)∧(-20000≤yb∧yb≤20000)∧(-20000≤mb∧mb≤20000)∧(-20000≤d1∧d1≤20000)∧(-20000≤d2∧d2≤20000)
theorem vO {ya ma da yb mb db d1 d2:Int} (h:CZ ya ma yb mb d1 d2):ab Tryz.prog GL 115 [.agg [I ya,I ma,I da], .agg [I yb,I mb,I db],I d1,I d2] [] (RT (p7 (n7 ya ma yb mb d1 d2))) []:=by
 unfold CZ at h
 refine k8 ⟨?_, ?_, ?_, ?_, ?_, ?_, ?_,fun h=> ?_,fun h=>⟨by unfold sf;omega, ?_⟩⟩<;>(try simp only[Ir,aj])<;>first|omega|(unfold p7 n7;simp only[h,if_true,if_false])
noncomputable def cg (b1:Bool) (x2:Int) (x3:Int) (b4:Bool) (x5:Int) (x6:Int) (x7:Int) (x8:Int) (x9:Int) (x10:Int) (x11:Int) (x12:Int):SC:=
 ⟨[⟨81,bJ 74 [(2,B b1),(6, .ptr 0 0),(9, .ptr 1 0),(11, .ptr 2 0),(13,I x2),(14,I x3),(15,B b4)],[.code (aa Tryz.f81 [1,1,1,1,1,1,1,1,1,1])],{}⟩],[some (.box true [I x5,I x6]),some (.box true [I x7,I x8,I x9]),some (.box true [I x10,I x11,I x12])]⟩
noncomputable def cd (x1:Int) (x2:Int) (x3:Int) (x4:Int) (x5:Int) (x6:Int) (x7:Int) (x8:Int) (x9:Int) (x10:Int):SC:=
 ⟨[⟨81,bJ 74 [(6, .ptr 0 0),(9, .ptr 1 0),(11, .ptr 2 0),(13,I x1),(14,I x2)],[.code (aa Tryz.f81 [1,1,1,1,1,1,1,1,1,1,1])],{}⟩],[some (.box true [I x3,I x4]),some (.box true [I x5,I x6,I x7]),some (.box true [I x8,I x9,I x10])]⟩
noncomputable def bO (x1:Int) (x2:Int) (x3:Int) (x4:Int) (x5:Int) (x6:Int) (x7:Int) (x8:Int) (x9:Int) (x10:Int):SC:=
 ⟨[⟨81,bJ 74 [(6, .ptr 0 0),(9, .ptr 1 0),(11, .ptr 2 0),(13,I x1),(14,I x2)],[.code (aa Tryz.f81 [1,1,1,1,1,1,1,1,1,1,1,1])],{}⟩],[some (.box true [I x3,I x4]),some (.box true [I x5,I x6,I x7]),some (.box true [I x8,I x9,I x10])]⟩
noncomputable def cH (x1:Int) (x2:Int) (x3:Int) (x4:Int) (x5:Int) (x6:Int) (x7:Int) (x8:Int) (x9:Int) (x10:Int):SC:=
 ⟨[⟨81,bJ 74 [(6, .ptr 0 0),(9, .ptr 1 0),(11, .ptr 2 0),(13,I x1),(14,I x2)],[.code (aa Tryz.f81 [1,1,1,1,1,1,1,1,1,1,1,1,1])],{}⟩],[some (.box true [I x3,I x4]),some (.box true [I x5,I x6,I x7]),some (.box true [I x8,I x9,I x10])]⟩
theorem nD {X:Cx} {a1 a2:Int} {a3:Bool} {res:SV} (hX:Fi X 81 [] res []) (H:((ck a1 a2)≠0→(SV.af [.agg [I 0,I 0],I (ck a1 a2)])=res)∧((ck a1 a2)=0→(a3=true→((aF a1&&((cM a1)==2))=true→((aF a2&&((cM a2)==2))=true→Ok X (cg a3 (cD a1) 30 (aF a1&&((cM a1)==2)) 0 0 (cY a1) (cM a1) (cD a1) (cY a2) (cM a2) (cD a2)))∧((aF a2&&((cM a2)==2))=false→Ok X (cg a3 (cD a1) (cD a2) (aF a1&&((cM a1)==2)) 0 0 (cY a1) (cM a1) (cD a1) (cY a2) (cM a2) (cD a2))))∧((aF a1&&((cM a1)==2))=false→Ok X (cg a3 (cD a1) (cD a2) (aF a1&&((cM a1)==2)) 0 0 (cY a1) (cM a1) (cD a1) (cY a2) (cM a2) (cD a2))))∧(a3=false→Ok X (cg a3 (cD a1) (cD a2) (aF a1&&((cM a1)==2)) 0 0 (cY a1) (cM a1) (cD a1) (cY a2) (cM a2) (cD a2))))):
  Ok X (entry Tryz.prog 81 [I a1,I a2,B a3] []):=by
 obtain⟨H1,H2⟩:=H
 refine hX.go [c_ [] (HL a1 a2)] ?_
 by_cases h0:(ck a1 a2)=0
 ·obtain⟨H1,H2⟩:=H2 h0
  refine hX.go [f_ (bne_eq_false_iff_eq.2 h0),c_ [] (rX a1),c_ [] (rX a2),c_ [] (show S 114 [I a1, .agg [I (cY a1),I (cM a1),I (cD a1)]] [] (B (aF a1&&((cM a1)==2))) []from Kp),c_ [] (show S 114 [I a2, .agg [I (cY a2),I (cM a2),I (cD a2)]] [] (B (aF a2&&((cM a2)==2))) []from Kp)] ?_
  rcases aq a3 with h1|h1
  ·obtain⟨H1,H2⟩:=H1 h1
   refine hX.go [t_ h1,t_ h1] ?_
   rcases aq (aF a1&&((cM a1)==2))with h2|h2
   ·obtain⟨H1,H2⟩:=H1 h2
    refine hX.go [t_ h2,t_ h2] ?_
    rcases aq (aF a2&&((cM a2)==2))with h3|h3
    ·exact hX.h 4 [t_ h3] (aA 3) (H1 h3)
    ·exact hX.h 2 [f_ h3] (aA 3) (H2 h3)
   ·exact hX.h 5 [f_ h2,f_ h2,f_ rf] (aA 3) (H2 h2)
  ·exact hX.h 8 [f_ h1,f_ h1,f_ rf,f_ rf,f_ rf] (aA 3) (H2 h1)
 ·obtain rfl:=H1 h0
  exact hX.e [t_ (bne_iff_ne.2 h0)]
theorem nC {X:Cx} {b1:Bool} {x2 x3:Int} {b4:Bool} {x5 x6 x7 x8 x9 x10 x11 x12:Int} {res:SV} (hX:Fi X 81 [] res []) (H:(b1=true→(b4=true→Ok X (cd 30 x3 x5 x6 x7 x8 x9 x10 x11 x12))∧(b4=false→Ok X (cd x2 x3 x5 x6 x7 x8 x9 x10 x11 x12)))∧(b1=false→Ok X (cd x2 x3 x5 x6 x7 x8 x9 x10 x11 x12))):
  Ok X (cg b1 x2 x3 b4 x5 x6 x7 x8 x9 x10 x11 x12):=by
 obtain⟨H1,H2⟩:=H
 rcases aq b1 with h0|h0
 ·obtain⟨H1,H2⟩:=H1 h0
  refine hX.go [t_ h0,t_ h0] ?_
  rcases aq b4 with h1|h1
  ·exact hX.h 4 [t_ h1] (aA 3) (H1 h1)
  ·exact hX.h 2 [f_ h1] (aA 3) (H2 h1)
 ·exact hX.h 10 [f_ h0,f_ h0,f_ rf] (aA 3) (H2 h0)
theorem nB {X:Cx} {x1 x2 x3 x4 x5 x6 x7 x8 x9 x10:Int} {res:SV} (hX:Fi X 81 [] res []) (H:(x2=31→(x1=30→Ok X (bO x1 30 x3 x4 x5 x6 x7 x8 x9 x10))∧(x1≠30→(x1=31→Ok X (bO x1 30 x3 x4 x5 x6 x7 x8 x9 x10))∧(x1≠31→Ok X (bO x1 x2 x3 x4 x5 x6 x7 x8 x9 x10))))∧(x2≠31→Ok X (bO x1 x2 x3 x4 x5 x6 x7 x8 x9 x10))):
  Ok X (cd x1 x2 x3 x4 x5 x6 x7 x8 x9 x10):=by
 obtain⟨H1,H2⟩:=H
 by_cases h0:x2=31
 ·obtain⟨H1,H2⟩:=H1 h0
  refine hX.go [t_ (beq_iff_eq.2 h0),t_ (beq_iff_eq.2 h0),t_ (beq_iff_eq.2 h0)] ?_
  by_cases h1:x1=30
  ·exact hX.h 9 [t_ (beq_iff_eq.2 h1),t_ (beq_iff_eq.2 h1),t_ (beq_iff_eq.2 h0),t_ (beq_iff_eq.2 h1),t_ (beq_iff_eq.2 h0),t_ rt] (aA 3) (H1 h1)
  ·obtain⟨H1,H2⟩:=H2 h1
   refine hX.go [f_ (beq_eq_false_iff_ne.2 h1),f_ (beq_eq_false_iff_ne.2 h1),t_ (beq_iff_eq.2 h0),f_ (beq_eq_false_iff_ne.2 h1),t_ (beq_iff_eq.2 h0)] ?_
   by_cases h2:x1=31
   ·exact hX.h 4 [t_ (beq_iff_eq.2 h2)] (aA 3) (H1 h2)
   ·exact hX.h 2 [f_ (beq_eq_false_iff_ne.2 h2)] (aA 3) (H2 h2)
 ·exact hX.h 16 [f_ (beq_eq_false_iff_ne.2 h0),f_ (beq_eq_false_iff_ne.2 h0),f_ (beq_eq_false_iff_ne.2 h0),f_ (beq_eq_false_iff_ne.2 h0),f_ (beq_eq_false_iff_ne.2 h0),f_ rf] (aA 3) (H2 h0)
theorem nA {X:Cx} {x1 x2 x3 x4 x5 x6 x7 x8 x9 x10:Int} {res:SV} (hX:Fi X 81 [] res []) (H:(x1=31→Ok X (cH 30 x2 x3 x4 x5 x6 x7 x8 x9 x10))∧(x1≠31→Ok X (cH x1 x2 x3 x4 x5 x6 x7 x8 x9 x10))):
  Ok X (bO x1 x2 x3 x4 x5 x6 x7 x8 x9 x10):=by
 obtain⟨H1,H2⟩:=H
 by_cases h0:x1=31
 ·exact hX.h 10 [t_ (beq_iff_eq.2 h0)] (aA 3) (H1 h0)
 ·exact hX.h 8 [f_ (beq_eq_false_iff_ne.2 h0)] (aA 3) (H2 h0)
theorem nz {X:Cx} {x1 x2 x3 x4 x5 x6 x7 x8 x9 x10:Int} {res:SV} (hX:Fi X 81 [] res []) (H:CZ x5 x6 x8 x9 x1 x2∧RT (p7 (n7 x5 x6 x8 x9 x1 x2))=res):
  Ok X (cH x1 x2 x3 x4 x5 x6 x7 x8 x9 x10):=by
 obtain⟨h0,rfl⟩:=H
 exact hX.e [c_ [] (show S 115 [.agg [I x5,I x6,I x7], .agg [I x8,I x9,I x10],I x1,I x2] [] (RT (p7 (n7 x5 x6 x8 x9 x1 x2))) []from vO h0)]
def B7 (eom f1 f2:Bool) (d1 d2:Int):Int×Int:=
 let e2:=if(eom&&f1&&f2)=true then 30 else d2
 let e1:=if(eom&&f1)=true then 30 else d1
 (if e1=31 then 30 else e1,if e2=31∧(e1=30∨e1=31)then 30 else e2)
def r7 (a b:Int) (d:Int×Int):Int×Int×Int:=if ck a b=0 then p7 (n7 (cY a) (cM a) (cY b) (cM b) d.1 d.2)else(0,0,ck a b)
def kL (a b:Int) (eom:Bool):Int×Int×Int:=r7 a b (B7 eom (aF a&&(cM a==2)) (aF b&&(cM b==2)) (cD a) (cD b))
theorem ku {a b:Int}:ck a b=0↔ai a=true∧ai b=true∧ ¬a>b:=by
 grind [ck]
theorem fL {a b:Int} {d:Int×Int} (h:ck a b≠0):r7 a b d=(0,0,ck a b):=by unfold r7;rw[if_neg h]
theorem AV {a b d1 d2:Int} (h:ck a b=0) (h1:0≤d1∧d1≤31) (h2:0≤d2∧d2≤31):CZ (cY a) (cM a) (cY b) (cM b) d1 d2:=by
 rw[ku]at h
 have:=cL h.1
 have:=cL h.2.1
 unfold CZ;omega
theorem Dp (a b:Int) (eom:Bool):ab Tryz.prog GL 81 [I a,I b,B eom] [] (RT (kL a b eom)) []:=by
 refine ab.of (by kernel_rfl) rfl trivial rfl (fun X hX=> ?_)
 refine nD hX ⟨fun h=>by rw[kL,fL h],fun h=> ?_⟩
 have hD:(1≤cD a∧cD a≤31)∧(1≤cD b∧cD b≤31):=by
  have h':=ku.1 h
  have:=cL h'.1
  have:=cL h'.2.1
  omega
 unfold kL r7 at hX
 rw[if_pos h]at hX
 generalize hf1:(aF a&&(cM a==2))=f1 at hX⊢
 generalize hf2:(aF b&&(cM b==2))=f2 at hX⊢
 grind [cd,bO,cH,nC,nB,nA,nz,AV,B7]
theorem pN {a1 a2:Int} {res:SV} (H:((ck a1 a2)≠0→(SV.af [.agg [I 0,I 0],I (ck a1 a2)])=res)∧((ck a1 a2)=0→((cD a1)=31→((cD a2)=31→CZ (cY a1) (cM a1) (cY a2) (cM a2) 30 30∧RT (p7 (n7 (cY a1) (cM a1) (cY a2) (cM a2) 30 30))=res)∧((cD a2)≠31→CZ (cY a1) (cM a1) (cY a2) (cM a2) 30 (cD a2)∧RT (p7 (n7 (cY a1) (cM a1) (cY a2) (cM a2) 30 (cD a2)))=res))∧((cD a1)≠31→((cD a2)=31→CZ (cY a1) (cM a1) (cY a2) (cM a2) (cD a1) 30∧RT (p7 (n7 (cY a1) (cM a1) (cY a2) (cM a2) (cD a1) 30))=res)∧((cD a2)≠31→CZ (cY a1) (cM a1) (cY a2) (cM a2) (cD a1) (cD a2)∧RT (p7 (n7 (cY a1) (cM a1) (cY a2) (cM a2) (cD a1) (cD a2)))=res)))):
  S 82 [I a1,I a2] [] res []:=by
 refine ab.st fun X hX=> ?_
 obtain⟨H1,H2⟩:=H
 refine hX.go [c_ [] (HL a1 a2)] ?_
 by_cases h0:(ck a1 a2)=0
 ·obtain⟨H1,H2⟩:=H2 h0
  refine hX.go [f_ (bne_eq_false_iff_eq.2 h0),c_ [] (rX a1),c_ [] (rX a2)] ?_
  by_cases h1:(cD a1)=31
  ·obtain⟨H1,H2⟩:=H1 h1
   refine hX.go [t_ (beq_iff_eq.2 h1)] ?_
   by_cases h2:(cD a2)=31
   ·obtain⟨h3,rfl⟩:=H1 h2
    exact hX.e [t_ (beq_iff_eq.2 h2),c_ [] (show S 115 [.agg [I (cY a1),I (cM a1),I (cD a1)], .agg [I (cY a2),I (cM a2),I (cD a2)],I 30,I 30] [] (RT (p7 (n7 (cY a1) (cM a1) (cY a2) (cM a2) 30 30))) []from vO h3)]
   ·obtain⟨h3,rfl⟩:=H2 h2
    exact hX.e [f_ (beq_eq_false_iff_ne.2 h2),c_ [] (show S 115 [.agg [I (cY a1),I (cM a1),I (cD a1)], .agg [I (cY a2),I (cM a2),I (cD a2)],I 30,I (cD a2)] [] (RT (p7 (n7 (cY a1) (cM a1) (cY a2) (cM a2) 30 (cD a2)))) []from vO h3)]
  ·obtain⟨H1,H2⟩:=H2 h1
   refine hX.go [f_ (beq_eq_false_iff_ne.2 h1)] ?_
   by_cases h2:(cD a2)=31
   ·obtain⟨h3,rfl⟩:=H1 h2
    exact hX.e [t_ (beq_iff_eq.2 h2),c_ [] (show S 115 [.agg [I (cY a1),I (cM a1),I (cD a1)], .agg [I (cY a2),I (cM a2),I (cD a2)],I (cD a1),I 30] [] (RT (p7 (n7 (cY a1) (cM a1) (cY a2) (cM a2) (cD a1) 30))) []from vO h3)]
   ·obtain⟨h3,rfl⟩:=H2 h2
    exact hX.e [f_ (beq_eq_false_iff_ne.2 h2),c_ [] (show S 115 [.agg [I (cY a1),I (cM a1),I (cD a1)], .agg [I (cY a2),I (cM a2),I (cD a2)],I (cD a1),I (cD a2)] [] (RT (p7 (n7 (cY a1) (cM a1) (cY a2) (cM a2) (cD a1) (cD a2)))) []from vO h3)]
 ·obtain rfl:=H1 h0
  exact hX.e [t_ (bne_iff_ne.2 h0)]
def xl (a b:Int):Int×Int×Int:=r7 a b (if cD a=31 then 30 else cD a,if cD b=31 then 30 else cD b)
theorem G0 (a b:Int):ab Tryz.prog GL 82 [I a,I b] [] (RT (xl a b)) []:=by
 refine pN ⟨fun h=>by rw[xl,fL h],fun h=> ?_⟩
 have hD:(1≤cD a∧cD a≤31)∧(1≤cD b∧cD b≤31):=by
  have h':=ku.1 h
  have:=cL h'.1
  have:=cL h'.2.1
  omega
 grind [r7,xl,AV]
noncomputable def ct (x1:Int) (x2:Int) (x3:Int) (x4:Int) (b5:Bool) (x6:Int) (x7:Int) (x8:Int) (x9:Int) (x10:Int) (x11:Int) (x12:Int) (x13:Int):SC:=
 ⟨[⟨83,bJ 62 [(1,I x1),(2,I x2),(6, .ptr 0 0),(9, .ptr 1 0),(11, .ptr 2 0),(13,I x3),(14,I x4),(16,B b5)],[.code (aa Tryz.f83 [1,1,1,1,1,1,1,1,1,1])],{}⟩],[some (.box true [I x6,I x7]),some (.box true [I x8,I x9,I x10]),some (.box true [I x11,I x12,I x13])]⟩
noncomputable def bw (x1:Int) (x2:Int) (x3:Int) (x4:Int) (x5:Int) (x6:Int) (x7:Int) (x8:Int) (x9:Int) (x10:Int):SC:=
 ⟨[⟨83,bJ 62 [(6, .ptr 0 0),(9, .ptr 1 0),(11, .ptr 2 0),(13,I x1),(14,I x2)],[.code (aa Tryz.f83 [1,1,1,1,1,1,1,1,1,1,1])],{}⟩],[some (.box true [I x3,I x4]),some (.box true [I x5,I x6,I x7]),some (.box true [I x8,I x9,I x10])]⟩
theorem j7 {X:Cx} {a1 a2 a3:Int} {res:SV} (hX:Fi X 83 [] res []) (H:((ck a1 a2)≠0→(SV.af [.agg [I 0,I 0],I (ck a1 a2)])=res)∧((ck a1 a2)=0→((aF a1)=true→Ok X (ct a2 a3 30 (cD a2) (aF a2) 0 0 (cY a1) (cM a1) (cD a1) (cY a2) (cM a2) (cD a2)))∧((aF a1)=false→Ok X (ct a2 a3 (cD a1) (cD a2) (aF a2) 0 0 (cY a1) (cM a1) (cD a1) (cY a2) (cM a2) (cD a2))))):
  Ok X (entry Tryz.prog 83 [I a1,I a2,I a3] []):=by
 obtain⟨H1,H2⟩:=H
 refine hX.go [c_ [] (HL a1 a2)] ?_
 by_cases h0:(ck a1 a2)=0
 ·obtain⟨H1,H2⟩:=H2 h0
  refine hX.go [f_ (bne_eq_false_iff_eq.2 h0),c_ [] (rX a1),c_ [] (rX a2),c_ [] (Be a1),c_ [] (Be a2)] ?_
  rcases aq (aF a1)with h1|h1
  ·exact hX.h 4 [t_ h1] (aA 3) (H1 h1)
  ·exact hX.h 2 [f_ h1] (aA 3) (H2 h1)
 ·obtain rfl:=H1 h0
  exact hX.e [t_ (bne_iff_ne.2 h0)]
theorem j6 {X:Cx} {x1 x2 x3 x4:Int} {b5:Bool} {x6 x7 x8 x9 x10 x11 x12 x13:Int} {res:SV} (hX:Fi X 83 [] res []) (H:(b5=true→(x1=x2→(x12≠2→Ok X (bw x3 30 x6 x7 x8 x9 x10 x11 x12 x13))∧(x12=2→Ok X (bw x3 x4 x6 x7 x8 x9 x10 x11 x12 x13)))∧(x1≠x2→Ok X (bw x3 30 x6 x7 x8 x9 x10 x11 x12 x13)))∧(b5=false→Ok X (bw x3 x4 x6 x7 x8 x9 x10 x11 x12 x13))):
  Ok X (ct x1 x2 x3 x4 b5 x6 x7 x8 x9 x10 x11 x12 x13):=by
 obtain⟨H1,H2⟩:=H
 rcases aq b5 with h0|h0
 ·obtain⟨H1,H2⟩:=H1 h0
  refine hX.go [t_ h0,t_ h0,t_ h0,t_ h0] ?_
  by_cases h1:x1=x2
  ·obtain⟨H1,H2⟩:=H1 h1
   refine hX.go [t_ (beq_iff_eq.2 h1),t_ (beq_iff_eq.2 h1),t_ (beq_iff_eq.2 h1),t_ h0,t_ (beq_iff_eq.2 h1),t_ h0,t_ h0] ?_
   by_cases h2:x12=2
   ·exact hX.h 2 [f_ (Go.Sx.tu (beq_iff_eq.2 h2))] (aA 3) (H2 h2)
   ·exact hX.h 4 [t_ (Go.Sx.Bo (beq_eq_false_iff_ne.2 h2))] (aA 3) (H1 h2)
  ·exact hX.h 11 [f_ (beq_eq_false_iff_ne.2 h1),f_ (beq_eq_false_iff_ne.2 h1),f_ (beq_eq_false_iff_ne.2 h1),t_ h0,f_ (beq_eq_false_iff_ne.2 h1),t_ h0,t_ h0,t_ rt] (aA 3) (H2 h1)
 ·exact hX.h 18 [f_ h0,f_ h0,f_ h0,f_ h0,f_ h0,f_ h0,f_ h0,f_ rf] (aA 3) (H2 h0)
theorem j0 {X:Cx} {x1 x2 x3 x4 x5 x6 x7 x8 x9 x10:Int} {res:SV} (hX:Fi X 83 [] res []) (H:CZ x5 x6 x8 x9 x1 x2∧RT (p7 (n7 x5 x6 x8 x9 x1 x2))=res):
  Ok X (bw x1 x2 x3 x4 x5 x6 x7 x8 x9 x10):=by
 obtain⟨h0,rfl⟩:=H
 exact hX.e [c_ [] (show S 115 [.agg [I x5,I x6,I x7], .agg [I x8,I x9,I x10],I x1,I x2] [] (RT (p7 (n7 x5 x6 x8 x9 x1 x2))) []from vO h0)]
def dm (a b e:Int):Int×Int×Int:=r7 a b (if aF a=true then 30 else cD a,if aF b=true∧ ¬(b=e∧cM b=2)then 30 else cD b)
theorem xP (a b e:Int):ab Tryz.prog GL 83 [I a,I b,I e] [] (RT (dm a b e)) []:=by
 refine ab.of (by kernel_rfl) rfl trivial rfl (fun X hX=> ?_)
 refine j7 hX ⟨fun h=>by rw[dm,fL h],fun h=> ?_⟩
 have hD:(1≤cD a∧cD a≤31)∧(1≤cD b∧cD b≤31):=by
  have h':=ku.1 h
  have:=cL h'.1
  have:=cL h'.2.1
  omega
 grind [ct,bw,j6,j0,aF,r7,dm,AV]
theorem pr {a1 a2 a3:Int} {a4:Bool} {res:SV} (H:(a4=true→B (a2==2)=res)∧(a4=false→B false=res)):
  S 183 [.agg [I a1,I a2,I a3,B a4]] [] res []:=by
 refine ab.st fun X hX=> ?_
 obtain⟨H1,H2⟩:=H
 rcases aq a4 with h0|h0
 ·obtain rfl:=H1 h0
  exact hX.e [t_ h0,t_ h0,t_ h0,t_ h0,t_ h0]
 ·obtain rfl:=H2 h0
  exact hX.e [f_ h0,f_ h0,f_ h0,f_ h0,f_ h0]
theorem Ko {y m d:Int} {l:Bool}:ab Tryz.prog GL 183 [.agg [I y,I m,I d,B l]] [] (B (l&&(m==2))) []:=
 pr ⟨fun h=>by simp[h],fun h=>by simp[h]⟩
noncomputable def fS (x1:Int) (x2:Int) (b3:Bool) (x4:Int) (x5:Int) (x6:Int) (x7:Int) (x8:Int) (x9:Int) (x10:Int) (b11:Bool) (x12:Int) (x13:Int) (x14:Int) (b15:Bool):SC:=
 ⟨[⟨182,bJ 41 [(0, .ptr 9 0)],[.code (aa Tryz.f182 [0,1,0,1]), .code (aa Tryz.f182 [1])],{}⟩,⟨181,bJ 92 [(6, .ptr 2 0),(12, .ptr 9 0),(41, .fn (.func 182) [] [.ptr 0 0]),(42, .ptr 9 0)],[.inRegion (aU Tryz.f181 [1,1,1,1,1,0]) [2], .code (aa Tryz.f181 [1,1,1,1,1,1])],{}⟩,⟨142,[none,none,none,none,none,none,some (.ptr 1 0),none,some (I x1),some (I x2),some (.fn (.func 182) [] [.ptr 0 0]),none,none,none],[.inRegion (aU Tryz.f142 [1,0]) [3,4,5,6,7], .code (aa Tryz.f142 [1,1])],{}⟩],[some (.box true [B b3]),some (.box true [I x4,I x5]),some (.box true [I x6,I x7]),none,none,none,none,none,none,some (.box true [I x8,I x9,I x10,B b11,I x12,I x13,I x14,B b15])]⟩
noncomputable def eD (x1:Int) (x2:Int) (b3:Bool) (x4:Int) (x5:Int) (x6:Int) (x7:Int) (x8:Int) (x9:Int) (x10:Int) (b11:Bool) (x12:Int) (x13:Int) (x14:Int) (b15:Bool):SC:=
 ⟨[⟨182,bJ 41 [(0, .ptr 9 0)],[.code (aa Tryz.f182 [1])],{}⟩,⟨181,bJ 92 [(6, .ptr 2 0),(12, .ptr 9 0),(41, .fn (.func 182) [] [.ptr 0 0]),(42, .ptr 9 0)],[.inRegion (aU Tryz.f181 [1,1,1,1,1,0]) [2], .code (aa Tryz.f181 [1,1,1,1,1,1])],{}⟩,⟨142,[none,none,none,none,none,none,some (.ptr 1 0),none,some (I x1),some (I x2),some (.fn (.func 182) [] [.ptr 0 0]),none,none,none],[.inRegion (aU Tryz.f142 [1,0]) [3,4,5,6,7], .code (aa Tryz.f142 [1,1])],{}⟩],[some (.box true [B b3]),some (.box true [I x4,I x5]),some (.box true [I x6,I x7]),none,none,none,none,none,none,some (.box true [I x8,I x9,I x10,B b11,I x12,I x13,I x14,B b15])]⟩
noncomputable def jv (x1:Int) (x2:Int) (b3:Bool) (x4:Int) (x5:Int) (x6:Int) (x7:Int) (x8:Int) (x9:Int) (x10:Int) (b11:Bool) (x12:Int) (x13:Int) (x14:Int) (b15:Bool):SC:=
 ⟨[⟨182,bJ 41 [(0, .ptr 9 0)],[.code (aa Tryz.f182 [1,1])],{}⟩,⟨181,bJ 92 [(6, .ptr 2 0),(12, .ptr 9 0),(41, .fn (.func 182) [] [.ptr 0 0]),(42, .ptr 9 0)],[.inRegion (aU Tryz.f181 [1,1,1,1,1,0]) [2], .code (aa Tryz.f181 [1,1,1,1,1,1])],{}⟩,⟨142,[none,none,none,none,none,none,some (.ptr 1 0),none,some (I x1),some (I x2),some (.fn (.func 182) [] [.ptr 0 0]),none,none,none],[.inRegion (aU Tryz.f142 [1,0]) [3,4,5,6,7], .code (aa Tryz.f142 [1,1])],{}⟩],[some (.box true [B b3]),some (.box true [I x4,I x5]),some (.box true [I x6,I x7]),none,none,none,none,none,none,some (.box true [I x8,I x9,I x10,B b11,I x12,I x13,I x14,B b15])]⟩
noncomputable def ju (x1:Int) (x2:Int) (b3:Bool) (x4:Int) (x5:Int) (x6:Int) (x7:Int) (x8:Int) (x9:Int) (x10:Int) (b11:Bool) (x12:Int) (x13:Int) (x14:Int) (b15:Bool):SC:=
 ⟨[⟨181,bJ 92 [(6, .ptr 2 0),(12, .ptr 9 0)],[.code (aa Tryz.f181 [1,1,1,1,1,1])],{}⟩,⟨142,[none,none,none,none,none,none,some (.ptr 1 0),none,some (I x1),some (I x2),some (.fn (.func 182) [] [.ptr 0 0]),none,none,none],[.inRegion (aU Tryz.f142 [1,0]) [3,4,5,6,7], .code (aa Tryz.f142 [1,1])],{}⟩],[some (.box true [B b3]),some (.box true [I x4,I x5]),some (.box true [I x6,I x7]),none,none,none,none,none,none,some (.box true [I x8,I x9,I x10,B b11,I x12,I x13,I x14,B b15])]⟩
theorem wi {X:Cx} {a1 a2:Int} {a3:Bool} {res:SV} (hX:Fi X 142 [] res []) (H:((cE a1)≠0→(SV.af [.agg [I 0,I 0],I 3])=res)∧((cE a1)=0→((cE a2)≠0→(SV.af [.agg [I 0,I 0],I 3])=res)∧((cE a2)=0→(a1>a2→(SV.af [.agg [I 0,I 0],I 4])=res)∧(¬a1>a2→(a3=true→(((aF a1)&&((cM a1)==2))=true→(((aF a2)&&((cM a2)==2))=true→Ok X (fS a1 a2 a3 0 0 0 0 (cY a1) (cM a1) (cD a1) (aF a1) (cY a2) (cM a2) 30 (aF a2)))∧(((aF a2)&&((cM a2)==2))=false→Ok X (fS a1 a2 a3 0 0 0 0 (cY a1) (cM a1) (cD a1) (aF a1) (cY a2) (cM a2) (cD a2) (aF a2))))∧(((aF a1)&&((cM a1)==2))=false→Ok X (eD a1 a2 a3 0 0 0 0 (cY a1) (cM a1) (cD a1) (aF a1) (cY a2) (cM a2) (cD a2) (aF a2))))∧(a3=false→Ok X (eD a1 a2 a3 0 0 0 0 (cY a1) (cM a1) (cD a1) (aF a1) (cY a2) (cM a2) (cD a2) (aF a2))))))):
  Ok X (entry Tryz.prog 142 [I a1,I a2,B a3] []):=by
 obtain⟨H1,H2⟩:=H
 refine hX.go [i_,i_,c_ [] (fg a1),h_ [.draw 5 [4] 1],c_ [] (v3 a1),q_ (show(I (cE a1):SV)=I (cE a1)from rfl),q_ (show(I (cE a1):SV)=I (cE a1)from rfl),i_,c_ [] (fg a2),h_ [.draw 5 [4] 1],c_ [] (v3 a2),q_ (show(I (cE a2):SV)=I (cE a2)from rfl),q_ (show(I (cE a2):SV)=I (cE a2)from rfl)] ?_
 by_cases h0:(cE a1)=0
 ·obtain⟨H1,H2⟩:=H2 h0
  refine hX.go [f_ (bne_eq_false_iff_eq.2 h0),f_ (bne_eq_false_iff_eq.2 h0),f_ (bne_eq_false_iff_eq.2 h0)] ?_
  by_cases h1:(cE a2)=0
  ·obtain⟨H1,H2⟩:=H2 h1
   refine hX.go [f_ (bne_eq_false_iff_eq.2 h1)] ?_
   by_cases h2:a1>a2
   ·obtain rfl:=H1 h2
    exact hX.e [t_ (dt h2)]
   ·obtain⟨H1,H2⟩:=H2 h2
    refine hX.go [f_ (df h2),i_] ?_
    rcases aq a3 with h3|h3
    ·obtain⟨H1,H2⟩:=H1 h3
     refine hX.go [t_ h3,t_ h3,t_ h3,t_ h3,t_ h3,c_ [] (show S 183 [.agg [I (cY a1),I (cM a1),I (cD a1),B (aF a1)]] [] (B ((aF a1)&&((cM a1)==2))) []from Ko),t_ h3] ?_
     rcases aq ((aF a1)&&((cM a1)==2))with h4|h4
     ·obtain⟨H1,H2⟩:=H1 h4
      refine hX.go [t_ h4,c_ [] (show S 183 [.agg [I (cY a2),I (cM a2),I (cD a2),B (aF a2)]] [] (B ((aF a2)&&((cM a2)==2))) []from Ko)] ?_
      rcases aq ((aF a2)&&((cM a2)==2))with h5|h5
      ·exact hX.h 9 [t_ h5] [.ae 0, .ae 1, .ae 2, .ae 1003, .ae 1004, .ae 1005, .ae 1006, .ae 1007, .ae 1008, .ae 9] (H1 h5)
      ·exact hX.h 2 [f_ h5] [.ae 0, .ae 1, .ae 2, .ae 1003, .ae 1004, .ae 1005, .ae 1006, .ae 1007, .ae 1008, .ae 9] (H2 h5)
     ·exact hX.h 2 [f_ h4] [.ae 0, .ae 1, .ae 2, .ae 1003, .ae 1004, .ae 1005, .ae 1006, .ae 1007, .ae 1008, .ae 9] (H2 h4)
    ·exact hX.h 9 [f_ h3,f_ h3,f_ h3,f_ h3,f_ h3,f_ h3,f_ rf] [.ae 0, .ae 1, .ae 2, .ae 1003, .ae 1004, .ae 1005, .ae 1006, .ae 1007, .ae 1008, .ae 9] (H2 h3)
  ·obtain rfl:=H1 h1
   exact hX.e [t_ (bne_iff_ne.2 h1)]
 ·obtain rfl:=H1 h0
  exact hX.e [t_ (bne_iff_ne.2 h0),t_ (bne_iff_ne.2 h0),t_ (bne_iff_ne.2 h0),t_ rt]
theorem wh {X:Cx} {x1 x2:Int} {b3:Bool} {x4 x5 x6 x7 x8 x9 x10:Int} {b11:Bool} {x12 x13 x14:Int} {b15:Bool} {res:SV} (hX:Fi X 142 [] res []) (H:Ok X (eD x1 x2 b3 x4 x5 x6 x7 x8 x9 30 b11 x12 x13 x14 b15)):
  Ok X (fS x1 x2 b3 x4 x5 x6 x7 x8 x9 x10 b11 x12 x13 x14 b15):=by
 exact hX.h 8 [] [.ae 0, .ae 1, .ae 2, .ae 1003, .ae 1004, .ae 1005, .ae 1006, .ae 1007, .ae 1008, .ae 9] H
theorem wg {X:Cx} {x1 x2:Int} {b3:Bool} {x4 x5 x6 x7 x8 x9 x10:Int} {b11:Bool} {x12 x13 x14:Int} {b15:Bool} {res:SV} (hX:Fi X 142 [] res []) (H:(x10≥30→Ok X (jv x1 x2 b3 x4 x5 x6 x7 x8 x9 x10 b11 x12 x13 (aO x14 30) b15))∧(¬x10≥30→Ok X (jv x1 x2 b3 x4 x5 x6 x7 x8 x9 x10 b11 x12 x13 x14 b15))):
  Ok X (eD x1 x2 b3 x4 x5 x6 x7 x8 x9 x10 b11 x12 x13 x14 b15):=by
 obtain⟨H1,H2⟩:=H
 by_cases h0:x10≥30
 ·exact hX.h 32 [t_ (dt h0),i_] [.ae 0, .ae 1, .ae 2, .ae 1003, .ae 1004, .ae 1005, .ae 1006, .ae 1007, .ae 1008, .ae 9] (H1 h0)
 ·exact hX.h 13 [f_ (df h0)] [.ae 0, .ae 1, .ae 2, .ae 1003, .ae 1004, .ae 1005, .ae 1006, .ae 1007, .ae 1008, .ae 9] (H2 h0)
theorem pX {X:Cx} {x1 x2:Int} {b3:Bool} {x4 x5 x6 x7 x8 x9 x10:Int} {b11:Bool} {x12 x13 x14:Int} {b15:Bool} {res:SV} (hX:Fi X 142 [] res []) (H:Ok X (ju x1 x2 b3 x4 x5 x6 x7 x8 x9 (aO x10 30) b11 x12 x13 x14 b15)):
  Ok X (jv x1 x2 b3 x4 x5 x6 x7 x8 x9 x10 b11 x12 x13 x14 b15):=by
 exact hX.h 22 [i_] [.ae 0, .ae 1, .ae 2, .ae 1003, .ae 1004, .ae 1005, .ae 1006, .ae 1007, .ae 1008, .ae 9] H
theorem we {X:Cx} {x1 x2:Int} {b3:Bool} {x4 x5 x6 x7 x8 x9 x10:Int} {b11:Bool} {x12 x13 x14:Int} {b15:Bool} {res:SV} (hX:Fi X 142 [] res []) (H:Ir (x12-x8)∧Ir (360*(x12-x8))∧Ir (x13-x9)∧Ir (30*(x13-x9))∧Ir ((360*(x12-x8))+(30*(x13-x9)))∧Ir (((360*(x12-x8))+(30*(x13-x9)))+x14)∧Ir ((((360*(x12-x8))+(30*(x13-x9)))+x14)-x10)∧sf (my 0 ((((360*(x12-x8))+(30*(x13-x9)))+x14)-x10))∧RT (kA (my 0 ((((360*(x12-x8))+(30*(x13-x9)))+x14)-x10)) 360)=res):
  Ok X (ju x1 x2 b3 x4 x5 x6 x7 x8 x9 x10 b11 x12 x13 x14 b15):=by
 obtain⟨h0,h1,h2,h3,h4,h5,h6,h7,rfl⟩:=H
 exact hX.e [q_ h0,q_ h1,q_ h2,q_ h3,q_ h4,q_ h5,q_ h6,d_ 42,c_ [] (show S 191 [I (my 0 ((((360*(x12-x8))+(30*(x13-x9)))+x14)-x10)),I 360] [] (RT (kA (my 0 ((((360*(x12-x8))+(30*(x13-x9)))+x14)-x10)) 360)) []from py h7 (by decide))]
theorem dv {a b:Int}:(cE a≠0→ck a b=3)∧(cE b≠0→ck a b=3)∧(cE a=0→cE b=0→a>b→ck a b=4)∧(cE a=0→cE b=0→ ¬a>b→ck a b=0):=by
 grind [pQ,ck]
theorem wj {a b d1 d2:Int} (h:ck a b=0) (h1:0≤d1∧d1≤31) (h2:0≤d2∧d2≤31):aj .i64 (cY b-cY a)∧aj .i64 (360*(cY b-cY a))∧aj .i64 (cM b-cM a)∧aj .i64 (30*(cM b-cM a))∧aj .i64 ((360*(cY b-cY a))+(30*(cM b-cM a)))∧aj .i64 (((360*(cY b-cY a))+(30*(cM b-cM a)))+d2)∧aj .i64 ((((360*(cY b-cY a))+(30*(cM b-cM a)))+d2)-d1)∧sf (my 0 ((((360*(cY b-cY a))+(30*(cM b-cM a)))+d2)-d1))∧
  RT (kA (my 0 ((((360*(cY b-cY a))+(30*(cM b-cM a)))+d2)-d1)) 360)=RT (p7 (n7 (cY a) (cM a) (cY b) (cM b) d1 d2)):=by
 have:=AV h h1 h2
 unfold CZ at this
 refine⟨?_, ?_, ?_, ?_, ?_, ?_, ?_, ?_, ?_⟩<;>(try simp only[Ir,aj])<;>(try unfold sf my)<;>(try omega)
 grind [kA,n7,p7]
theorem JK (a b:Int) (eom:Bool):ab Tryz.prog GL 142 [I a,I b,B eom] [] (RT (kL a b eom)) []:=by
 refine ab.of (by kernel_rfl) rfl trivial rfl (fun X hX=> ?_)
 refine wi hX ⟨fun h=>by rw[kL,fL]<;>rw[dv.1 h];decide,fun h=>⟨fun h1=>by rw[kL,fL]<;>rw[dv.2.1 h1];decide,fun h1=>⟨fun h2=>by rw[kL,fL]<;>rw[dv.2.2.1 h h1 h2];decide,fun h2=> ?_⟩⟩⟩
 have h:=dv.2.2.2 h h1 h2
 have hD:(1≤cD a∧cD a≤31)∧(1≤cD b∧cD b≤31):=by
  have h':=ku.1 h
  have:=cL h'.1
  have:=cL h'.2.1
  omega
 unfold kL r7 at hX
 rw[if_pos h]at hX
 generalize hf1:(aF a&&(cM a==2))=f1 at hX⊢
 generalize hf2:(aF b&&(cM b==2))=f2 at hX⊢
 have S3: ∀ d1 d2,(d1,d2)=B7 eom f1 f2 (cD a) (cD b)→0≤d1∧d1≤31→0≤d2∧d2≤31→Ok X (ju a b eom 0 0 0 0 (cY a) (cM a) d1 (aF a) (cY b) (cM b) d2 (aF b)):=fun d1 d2 e h1 h2=>by
  grind [wj,we]
 have S1: ∀ d1 d2,(aO d1 30,if d1≥30 then aO d2 30 else d2)=B7 eom f1 f2 (cD a) (cD b)→0≤d1∧d1≤31→0≤d2∧d2≤31→Ok X (eD a b eom 0 0 0 0 (cY a) (cM a) d1 (aF a) (cY b) (cM b) d2 (aF b)):=fun d1 d2 e h1 h2=>
  wg hX ⟨fun c=>pX hX (S3 _ _ (by rw[←e,if_pos c]) (by unfold aO;omega) (by unfold aO;omega)),fun c=>pX hX (S3 _ _ (by rw[←e,if_neg c]) (by unfold aO;omega) h2)⟩
 have S0: ∀ d1 d2,(aO 30 30,aO d2 30)=B7 eom f1 f2 (cD a) (cD b)→0≤d2∧d2≤31→Ok X (fS a b eom 0 0 0 0 (cY a) (cM a) d1 (aF a) (cY b) (cM b) d2 (aF b)):=fun d1 d2 e h2=>
  wh hX (S1 30 d2 (by rw[←e];rfl) (by omega) h2)
 have key: ∀ d1 d2:Int,1≤d1∧d1≤31→1≤d2∧d2≤31→(aO d1 30,if d1≥30 then aO d2 30 else d2)=(if d1=31 then 30 else d1,if d2=31∧(d1=30∨d1=31)then 30 else d2):=fun d1 d2 h1 h2=>by
  grind
 refine⟨fun c=>⟨fun c1=>⟨fun c2=>S0 _ _ ?_ (by omega),fun c2=>S0 _ _ ?_ (by omega)⟩,fun c1=>S1 _ _ ?_ (by omega) (by omega)⟩,fun c=>S1 _ _ ?_ (by omega) (by omega)⟩
 ·rw[show B7 eom f1 f2 (cD a) (cD b)=(if(30:Int)=31 then 30 else 30,if(30:Int)=31∧((30:Int)=30∨(30:Int)=31)then 30 else 30)by simp[B7,c,c1,c2]];rfl
 ·rw[show B7 eom f1 f2 (cD a) (cD b)=(if(30:Int)=31 then 30 else 30,if cD b=31∧((30:Int)=30∨(30:Int)=31)then 30 else cD b)by simp[B7,c,c1,c2],←key _ _ (by omega) (by omega)];rfl
 ·rw[show B7 eom f1 f2 (cD a) (cD b)=(if cD a=31 then 30 else cD a,if cD b=31∧(cD a=30∨cD a=31)then 30 else cD b)by simp[B7,c,c1],←key _ _ (by omega) (by omega)]
 ·rw[show B7 eom f1 f2 (cD a) (cD b)=(if cD a=31 then 30 else cD a,if cD b=31∧(cD a=30∨cD a=31)then 30 else cD b)by simp[B7,c],←key _ _ (by omega) (by omega)]
theorem zd {a1 a2:Int} {res:SV} (H:((cE a1)≠0→(SV.af [.agg [I 0,I 0],I 3])=res)∧((cE a1)=0→((cE a2)≠0→(SV.af [.agg [I 0,I 0],I 3])=res)∧((cE a2)=0→(a1>a2→(SV.af [.agg [I 0,I 0],I 4])=res)∧(¬a1>a2→Ir ((cY a2)-(cY a1))∧Ir (360*((cY a2)-(cY a1)))∧Ir ((cM a2)-(cM a1))∧Ir (30*((cM a2)-(cM a1)))∧Ir ((360*((cY a2)-(cY a1)))+(30*((cM a2)-(cM a1))))∧Ir (((360*((cY a2)-(cY a1)))+(30*((cM a2)-(cM a1))))+(aO (cD a2) 30))∧Ir ((((360*((cY a2)-(cY a1)))+(30*((cM a2)-(cM a1))))+(aO (cD a2) 30))-(aO (cD a1) 30))∧sf (my 0 ((((360*((cY a2)-(cY a1)))+(30*((cM a2)-(cM a1))))+(aO (cD a2) 30))-(aO (cD a1) 30)))∧RT (kA (my 0 ((((360*((cY a2)-(cY a1)))+(30*((cM a2)-(cM a1))))+(aO (cD a2) 30))-(aO (cD a1) 30))) 360)=res)))):
  S 144 [I a1,I a2] [] res []:=by
 refine ab.st fun X hX=> ?_
 obtain⟨H1,H2⟩:=H
 refine hX.go [i_,i_,i_,c_ [] (fg a1),h_ [.draw 5 [4] 1],c_ [] (v3 a1),q_ (show(I (cE a1):SV)=I (cE a1)from rfl),q_ (show(I (cE a1):SV)=I (cE a1)from rfl),i_,c_ [] (fg a2),h_ [.draw 5 [4] 1],c_ [] (v3 a2),q_ (show(I (cE a2):SV)=I (cE a2)from rfl),q_ (show(I (cE a2):SV)=I (cE a2)from rfl)] ?_
 by_cases h0:(cE a1)=0
 ·obtain⟨H1,H2⟩:=H2 h0
  refine hX.go [f_ (bne_eq_false_iff_eq.2 h0),f_ (bne_eq_false_iff_eq.2 h0),f_ (bne_eq_false_iff_eq.2 h0)] ?_
  by_cases h1:(cE a2)=0
  ·obtain⟨H1,H2⟩:=H2 h1
   refine hX.go [f_ (bne_eq_false_iff_eq.2 h1)] ?_
   by_cases h2:a1>a2
   ·obtain rfl:=H1 h2
    exact hX.e [t_ (dt h2)]
   ·obtain⟨h3,h4,h5,h6,h7,h8,h9,h10,rfl⟩:=H2 h2
    exact hX.e [f_ (df h2),q_ h3,q_ h4,q_ h5,q_ h6,q_ h7,q_ h8,q_ h9,i_,d_ 4,i_,d_ 4,i_,d_ 42,c_ [] (show S 191 [I (my 0 ((((360*((cY a2)-(cY a1)))+(30*((cM a2)-(cM a1))))+(aO (cD a2) 30))-(aO (cD a1) 30))),I 360] [] (RT (kA (my 0 ((((360*((cY a2)-(cY a1)))+(30*((cM a2)-(cM a1))))+(aO (cD a2) 30))-(aO (cD a1) 30))) 360)) []from py h10 (by decide))]
  ·obtain rfl:=H1 h1
   exact hX.e [t_ (bne_iff_ne.2 h1)]
 ·obtain rfl:=H1 h0
  exact hX.e [t_ (bne_iff_ne.2 h0),t_ (bne_iff_ne.2 h0),t_ (bne_iff_ne.2 h0),t_ rt]
theorem KW (a b:Int):ab Tryz.prog GL 144 [I a,I b] [] (RT (xl a b)) []:=by
 refine zd ⟨fun h=>by rw[xl,fL]<;>rw[dv.1 h];decide,fun h=>⟨fun h1=>by rw[xl,fL]<;>rw[dv.2.1 h1];decide,fun h1=>⟨fun h2=>by rw[xl,fL]<;>rw[dv.2.2.1 h h1 h2];decide,fun h2=> ?_⟩⟩⟩
 have h:=dv.2.2.2 h h1 h2
 have hD:(1≤cD a∧cD a≤31)∧(1≤cD b∧cD b≤31):=by
  have h':=ku.1 h
  have:=cL h'.1
  have:=cL h'.2.1
  omega
 have:=wj (d1:=aO (cD a) 30) (d2:=aO (cD b) 30) h (by unfold aO;omega) (by unfold aO;omega)
 unfold xl r7
 grind
noncomputable def eI (b1:Bool) (x2:Int) (x3:Int) (x4:Int) (x5:Int) (x6:Int) (x7:Int) (x8:Int) (x9:Int) (x10:Int) (x11:Int) (x12:Int) (b13:Bool) (x14:Int) (x15:Int) (x16:Int) (b17:Bool):SC:=
 ⟨[⟨187,bJ 34 [(0, .ptr 10 0),(4,B b1)],[.code (aa Tryz.f187 [1])],{}⟩,⟨181,bJ 92 [(6, .ptr 3 0),(12, .ptr 10 0),(41, .fn (.func 187) [] [.ptr 0 0, .ptr 1 0]),(42, .ptr 10 0)],[.inRegion (aU Tryz.f181 [1,1,1,1,1,0]) [2], .code (aa Tryz.f181 [1,1,1,1,1,1])],{}⟩,⟨146,[none,none,none,none,none,none,some (.ptr 2 0),none,some (I x2),some (I x3),some (.fn (.func 187) [] [.ptr 0 0, .ptr 1 0]),none,none,none],[.inRegion (aU Tryz.f146 [1,0]) [3,4,5,6,7], .code (aa Tryz.f146 [1,1])],{}⟩],[some (.box true [I x4]),some (.box true [I x5]),some (.box true [I x6,I x7]),some (.box true [I x8,I x9]),none,none,none,none,none,none,some (.box true [I x10,I x11,I x12,B b13,I x14,I x15,I x16,B b17])]⟩
noncomputable def gp (b1:Bool) (x2:Int) (x3:Int) (x4:Int) (x5:Int) (x6:Int) (x7:Int) (x8:Int) (x9:Int) (x10:Int) (x11:Int) (x12:Int) (x13:Int) (b14:Bool) (x15:Int) (x16:Int) (x17:Int) (b18:Bool):SC:=
 ⟨[⟨219,[some (.ptr 10 0),some (.ptr 11 0),none,none,none,none,none,none,none,none,none,none,none],[.code (aa Tryz.f219 [1])],{}⟩,⟨187,bJ 34 [(0, .ptr 10 0),(4,B b1),(5,I x2),(24, .fn (.func 219) [] [.ptr 11 0]),(25, .ptr 10 0)],[.inRegion (aU Tryz.f187 [1,1,0]) [2], .code (aa Tryz.f187 [1,1,1])],{}⟩,⟨181,bJ 92 [(6, .ptr 3 0),(12, .ptr 10 0),(41, .fn (.func 187) [] [.ptr 0 0, .ptr 1 0]),(42, .ptr 10 0)],[.inRegion (aU Tryz.f181 [1,1,1,1,1,0]) [2], .code (aa Tryz.f181 [1,1,1,1,1,1])],{}⟩,⟨146,[none,none,none,none,none,none,some (.ptr 2 0),none,some (I x3),some (I x4),some (.fn (.func 187) [] [.ptr 0 0, .ptr 1 0]),none,none,none],[.inRegion (aU Tryz.f146 [1,0]) [3,4,5,6,7], .code (aa Tryz.f146 [1,1])],{}⟩],[some (.box true [I x5]),some (.box true [I x6]),some (.box true [I x7,I x8]),some (.box true [I x9,I x10]),none,none,none,none,none,none,some (.box true [I x11,I x12,I x13,B b14,I x15,I x16,I x17,B b18]),some (.box true [.fn (.func 188) [] []])]⟩
noncomputable def gn (b1:Bool) (x2:Int) (x3:Int) (x4:Int) (x5:Int) (x6:Int) (x7:Int) (x8:Int) (x9:Int) (x10:Int) (x11:Int) (x12:Int) (x13:Int) (b14:Bool) (x15:Int) (x16:Int) (x17:Int) (b18:Bool):SC:=
 ⟨[⟨187,bJ 34 [(0, .ptr 10 0),(4,B b1),(5,I x2)],[.code (aa Tryz.f187 [1,1,1])],{}⟩,⟨181,bJ 92 [(6, .ptr 3 0),(12, .ptr 10 0),(41, .fn (.func 187) [] [.ptr 0 0, .ptr 1 0]),(42, .ptr 10 0)],[.inRegion (aU Tryz.f181 [1,1,1,1,1,0]) [2], .code (aa Tryz.f181 [1,1,1,1,1,1])],{}⟩,⟨146,[none,none,none,none,none,none,some (.ptr 2 0),none,some (I x3),some (I x4),some (.fn (.func 187) [] [.ptr 0 0, .ptr 1 0]),none,none,none],[.inRegion (aU Tryz.f146 [1,0]) [3,4,5,6,7], .code (aa Tryz.f146 [1,1])],{}⟩],[some (.box true [I x5]),some (.box true [I x6]),some (.box true [I x7,I x8]),some (.box true [I x9,I x10]),none,none,none,none,none,none,some (.box true [I x11,I x12,I x13,B b14,I x15,I x16,I x17,B b18])]⟩
noncomputable def eH (x1:Int) (x2:Int) (x3:Int) (x4:Int) (x5:Int) (x6:Int) (x7:Int) (x8:Int) (x9:Int) (x10:Int) (x11:Int) (b12:Bool) (x13:Int) (x14:Int) (x15:Int) (b16:Bool):SC:=
 ⟨[⟨181,bJ 92 [(6, .ptr 3 0),(12, .ptr 10 0)],[.code (aa Tryz.f181 [1,1,1,1,1,1])],{}⟩,⟨146,[none,none,none,none,none,none,some (.ptr 2 0),none,some (I x1),some (I x2),some (.fn (.func 187) [] [.ptr 0 0, .ptr 1 0]),none,none,none],[.inRegion (aU Tryz.f146 [1,0]) [3,4,5,6,7], .code (aa Tryz.f146 [1,1])],{}⟩],[some (.box true [I x3]),some (.box true [I x4]),some (.box true [I x5,I x6]),some (.box true [I x7,I x8]),none,none,none,none,none,none,some (.box true [I x9,I x10,I x11,B b12,I x13,I x14,I x15,B b16])]⟩
theorem sU {X:Cx} {a1 a2 a3:Int} {res:SV} (hX:Fi X 146 [] res []) (H:((cE a1)≠0→(SV.af [.agg [I 0,I 0],I 3])=res)∧((cE a1)=0→((cE a2)≠0→(SV.af [.agg [I 0,I 0],I 3])=res)∧((cE a2)=0→(a1>a2→(SV.af [.agg [I 0,I 0],I 4])=res)∧(¬a1>a2→(a2=a3→Ok X (eI ((cM a2)==2) a1 a2 a2 a3 0 0 0 0 (cY a1) (cM a1) (cD a1) (aF a1) (cY a2) (cM a2) (cD a2) (aF a2)))∧(a2≠a3→Ok X (eI false a1 a2 a2 a3 0 0 0 0 (cY a1) (cM a1) (cD a1) (aF a1) (cY a2) (cM a2) (cD a2) (aF a2))))))):
  Ok X (entry Tryz.prog 146 [I a1,I a2,I a3] []):=by
 obtain⟨H1,H2⟩:=H
 refine hX.go [i_,i_,c_ [] (fg a1),h_ [.draw 5 [4] 1],c_ [] (v3 a1),q_ (show(I (cE a1):SV)=I (cE a1)from rfl),q_ (show(I (cE a1):SV)=I (cE a1)from rfl),i_,c_ [] (fg a2),h_ [.draw 5 [4] 1],c_ [] (v3 a2),q_ (show(I (cE a2):SV)=I (cE a2)from rfl),q_ (show(I (cE a2):SV)=I (cE a2)from rfl)] ?_
 by_cases h0:(cE a1)=0
 ·obtain⟨H1,H2⟩:=H2 h0
  refine hX.go [f_ (bne_eq_false_iff_eq.2 h0),f_ (bne_eq_false_iff_eq.2 h0),f_ (bne_eq_false_iff_eq.2 h0)] ?_
  by_cases h1:(cE a2)=0
  ·obtain⟨H1,H2⟩:=H2 h1
   refine hX.go [f_ (bne_eq_false_iff_eq.2 h1)] ?_
   by_cases h2:a1>a2
   ·obtain rfl:=H1 h2
    exact hX.e [t_ (dt h2)]
   ·obtain⟨H1,H2⟩:=H2 h2
    refine hX.go [f_ (df h2),i_] ?_
    by_cases h3:a2=a3
    ·exact hX.h 10 [t_ (beq_iff_eq.2 h3),t_ (beq_iff_eq.2 h3),t_ (beq_iff_eq.2 h3),t_ (beq_iff_eq.2 h3),t_ (beq_iff_eq.2 h3),t_ (beq_iff_eq.2 h3),t_ (beq_iff_eq.2 h3),t_ (beq_iff_eq.2 h3)] [.ae 0, .ae 1, .ae 2, .ae 3, .ae 1004, .ae 1005, .ae 1006, .ae 1007, .ae 1008, .ae 1009, .ae 10] (H1 h3)
    ·exact hX.h 10 [f_ (beq_eq_false_iff_ne.2 h3),f_ (beq_eq_false_iff_ne.2 h3),f_ (beq_eq_false_iff_ne.2 h3),f_ (beq_eq_false_iff_ne.2 h3),f_ (beq_eq_false_iff_ne.2 h3),f_ (beq_eq_false_iff_ne.2 h3),f_ (beq_eq_false_iff_ne.2 h3),f_ (beq_eq_false_iff_ne.2 h3)] [.ae 0, .ae 1, .ae 2, .ae 3, .ae 1004, .ae 1005, .ae 1006, .ae 1007, .ae 1008, .ae 1009, .ae 10] (H2 h3)
  ·obtain rfl:=H1 h1
   exact hX.e [t_ (bne_iff_ne.2 h1)]
 ·obtain rfl:=H1 h0
  exact hX.e [t_ (bne_iff_ne.2 h0),t_ (bne_iff_ne.2 h0),t_ (bne_iff_ne.2 h0),t_ rt]
theorem sT {X:Cx} {b1:Bool} {x2 x3 x4 x5 x6 x7 x8 x9 x10 x11 x12:Int} {b13:Bool} {x14 x15 x16:Int} {b17:Bool} {res:SV} (hX:Fi X 146 [] res []) (H:(b13=true→Ok X (gp b1 x16 x2 x3 x4 x5 x6 x7 x8 x9 x10 x11 30 b13 x14 x15 x16 b17))∧(b13=false→Ok X (gp b1 x16 x2 x3 x4 x5 x6 x7 x8 x9 x10 x11 x12 b13 x14 x15 x16 b17))):
  Ok X (eI b1 x2 x3 x4 x5 x6 x7 x8 x9 x10 x11 x12 b13 x14 x15 x16 b17):=by
 obtain⟨H1,H2⟩:=H
 refine hX.go [i_,i_,d_ 4,i_] ?_
 rcases aq b13 with h0|h0
 ·exact hX.h 10 [t_ h0] [.ae 0, .ae 1, .ae 2, .ae 3, .ae 1004, .ae 1005, .ae 1006, .ae 1007, .ae 1008, .ae 1009, .ae 10, .ae 11] (H1 h0)
 ·exact hX.h 4 [f_ h0] [.ae 0, .ae 1, .ae 2, .ae 3, .ae 1004, .ae 1005, .ae 1006, .ae 1007, .ae 1008, .ae 1009, .ae 10, .ae 11] (H2 h0)
theorem mC {X:Cx} {b1:Bool} {x2 x3 x4 x5 x6 x7 x8 x9 x10 x11 x12 x13:Int} {b14:Bool} {x15 x16 x17:Int} {b18:Bool} {res:SV} (hX:Fi X 146 [] res []) (H:(b18=true→Ok X (gn b1 x2 x3 x4 x5 x6 x7 x8 x9 x10 x11 x12 x13 b14 x15 x16 30 b18))∧(b18=false→Ok X (gn b1 x2 x3 x4 x5 x6 x7 x8 x9 x10 x11 x12 x13 b14 x15 x16 x17 b18))):
  Ok X (gp b1 x2 x3 x4 x5 x6 x7 x8 x9 x10 x11 x12 x13 b14 x15 x16 x17 b18):=by
 obtain⟨H1,H2⟩:=H
 refine hX.go [d_ 4,i_] ?_
 rcases aq b18 with h0|h0
 ·exact hX.h 12 [t_ h0] [.ae 0, .ae 1, .ae 2, .ae 3, .ae 1004, .ae 1005, .ae 1006, .ae 1007, .ae 1008, .ae 1009, .ae 10] (H1 h0)
 ·exact hX.h 6 [f_ h0] [.ae 0, .ae 1, .ae 2, .ae 3, .ae 1004, .ae 1005, .ae 1006, .ae 1007, .ae 1008, .ae 1009, .ae 10] (H2 h0)
theorem eF {X:Cx} {b1:Bool} {x2 x3 x4 x5 x6 x7 x8 x9 x10 x11 x12 x13:Int} {b14:Bool} {x15 x16 x17:Int} {b18:Bool} {res:SV} (hX:Fi X 146 [] res []) (H:(b1=true→Ok X (eH x3 x4 x5 x6 x7 x8 x9 x10 x11 x12 x13 b14 x15 x16 x2 b18))∧(b1=false→Ok X (eH x3 x4 x5 x6 x7 x8 x9 x10 x11 x12 x13 b14 x15 x16 x17 b18))):
  Ok X (gn b1 x2 x3 x4 x5 x6 x7 x8 x9 x10 x11 x12 x13 b14 x15 x16 x17 b18):=by
 obtain⟨H1,H2⟩:=H
 rcases aq b1 with h0|h0
 ·exact hX.h 16 [t_ h0] [.ae 0, .ae 1, .ae 2, .ae 3, .ae 1004, .ae 1005, .ae 1006, .ae 1007, .ae 1008, .ae 1009, .ae 10] (H1 h0)
 ·exact hX.h 8 [f_ h0] [.ae 0, .ae 1, .ae 2, .ae 3, .ae 1004, .ae 1005, .ae 1006, .ae 1007, .ae 1008, .ae 1009, .ae 10] (H2 h0)
theorem sS {X:Cx} {x1 x2 x3 x4 x5 x6 x7 x8 x9 x10 x11:Int} {b12:Bool} {x13 x14 x15:Int} {b16:Bool} {res:SV} (hX:Fi X 146 [] res []) (H:Ir (x13-x9)∧Ir (360*(x13-x9))∧Ir (x14-x10)∧Ir (30*(x14-x10))∧Ir ((360*(x13-x9))+(30*(x14-x10)))∧Ir (((360*(x13-x9))+(30*(x14-x10)))+x15)∧Ir ((((360*(x13-x9))+(30*(x14-x10)))+x15)-x11)∧sf (my 0 ((((360*(x13-x9))+(30*(x14-x10)))+x15)-x11))∧RT (kA (my 0 ((((360*(x13-x9))+(30*(x14-x10)))+x15)-x11)) 360)=res):
  Ok X (eH x1 x2 x3 x4 x5 x6 x7 x8 x9 x10 x11 b12 x13 x14 x15 b16):=by
 obtain⟨h0,h1,h2,h3,h4,h5,h6,h7,rfl⟩:=H
 exact hX.e [q_ h0,q_ h1,q_ h2,q_ h3,q_ h4,q_ h5,q_ h6,d_ 42,c_ [] (show S 191 [I (my 0 ((((360*(x13-x9))+(30*(x14-x10)))+x15)-x11)),I 360] [] (RT (kA (my 0 ((((360*(x13-x9))+(30*(x14-x10)))+x15)-x11)) 360)) []from py h7 (by decide))]
theorem Eg (P:Prop) [Decidable P] (l:Bool) (d:Int):(if l=true∧ ¬P then(30:Int)else d)=if l=true then(if decide P=true then d else 30)else d:=by
 grind
theorem Fz (a b e:Int):ab Tryz.prog GL 146 [I a,I b,I e] [] (RT (dm a b e)) []:=by
 refine ab.of (by kernel_rfl) rfl trivial rfl (fun X hX=> ?_)
 refine sU hX ⟨fun h=>by rw[dm,fL]<;>rw[dv.1 h];decide,fun h=>⟨fun h1=>by rw[dm,fL]<;>rw[dv.2.1 h1];decide,fun h1=>⟨fun h2=>by rw[dm,fL]<;>rw[dv.2.2.1 h h1 h2];decide,fun h2=> ?_⟩⟩⟩
 have h:=dv.2.2.2 h h1 h2
 have hD:(1≤cD a∧cD a≤31)∧(1≤cD b∧cD b≤31):=by
  have h':=ku.1 h
  have:=cL h'.1
  have:=cL h'.2.1
  omega
 unfold dm r7 at hX
 rw[if_pos h]at hX
 have S3: ∀ d1 d2,(d1,d2)=(if aF a=true then(30:Int)else cD a,if aF b=true∧ ¬(b=e∧cM b=2)then(30:Int)else cD b)→0≤d1∧d1≤31→0≤d2∧d2≤31→Ok X (eH a b b e 0 0 0 0 (cY a) (cM a) d1 (aF a) (cY b) (cM b) d2 (aF b)):=fun d1 d2 e h1 h2=>by
  grind [wj,sS]
 have S0: ∀ k:Bool,k=decide (b=e∧cM b=2)→Ok X (eI k a b b e 0 0 0 0 (cY a) (cM a) (cD a) (aF a) (cY b) (cM b) (cD b) (aF b)):=fun k hk=>by
  refine sT hX ⟨fun c=>mC hX ⟨fun c1=>eF hX ⟨fun c2=>S3 _ _ ?_ (by omega) (by omega),fun c2=>S3 _ _ ?_ (by omega) (by omega)⟩,fun c1=>eF hX ⟨fun c2=>S3 _ _ ?_ (by omega) (by omega),fun c2=>S3 _ _ ?_ (by omega) (by omega)⟩⟩,
   fun c=>mC hX ⟨fun c1=>eF hX ⟨fun c2=>S3 _ _ ?_ (by omega) (by omega),fun c2=>S3 _ _ ?_ (by omega) (by omega)⟩,fun c1=>eF hX ⟨fun c2=>S3 _ _ ?_ (by omega) (by omega),fun c2=>S3 _ _ ?_ (by omega) (by omega)⟩⟩⟩<;>
   rw[Eg,←hk]<;>simp only[c,c1,c2,if_true,if_false,Bool.false_eq_true]
 grind
end Go.Proofs.YtelidogcomffkaaGreatDoor
