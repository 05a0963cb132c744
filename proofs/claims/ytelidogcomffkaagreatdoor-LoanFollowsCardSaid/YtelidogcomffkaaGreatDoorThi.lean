import Derived.Test.YtelidogcomffkaaGreatDoorCi2
import Derived.Test.YtelidogcomffkaaGreatDoorRnd
import Derived.Test.YtelidogcomffkaaGreatDoorProg
import Derived.KernelRfl
import Derived.Laws.Externs
set_option linter.unusedSectionVars false
set_option linter.unusedSimpArgs false
set_option linter.unusedVariables false
set_option maxRecDepth 100000
namespace Go.Proofs.YtelidogcomffkaaGreatDoor
open Go Go.Sx
variable [Env]
def mkI (n d:Int):Int×Int×Int:=mkR n.toNat d.toNat
abbrev I63 (n:Int):Prop:=0≤n∧n<9223372036854775808
abbrev P63 (n:Int):Prop:=0<n∧n<9223372036854775808
abbrev mxI (a b:Int):Int:=if a<b then b else a
abbrev mnI (a b:Int):Int:=if b<a then b else a
theorem r_NewI {n d:Int} (hn:I63 n) (hd:P63 d):SCall Tryz.prog GL 191 [I n,I d] [] (RT (mkI n d)) []:=by
 have:=r_New (n:=n.toNat) (d:=d.toNat) (by omega) (by omega) (by omega)
 rw[show((n.toNat:Nat):Int)=n by omega,show((d.toNat:Nat):Int)=d by omega]at this
 exact this
def lastB (n:Int):Bool:=isDay n&&(cD n==len (cY n) (cM n))
def whyR (a b:Int):Int:=if isDay a=true∧isDay b=true then if a>b then 4 else 0 else 3
theorem cE_0 {n:Int}:cE n=0↔isDay n=true:=by unfold cE;split<;>simp_all
theorem months_end_w {a1 a2 a3:Int} {res:SV} (H:(0:Int)≤a1∧(SV.agg [I a1,I a2,I (len a1 a2)])=res):
  S 179 [.agg [I a1,I a2,I a3]] [] res []:=by
 refine SCall.st fun X hX=> ?_
 obtain⟨h0,rfl⟩:=H
 exact hX.e [c_ [] (show S 88 [I a1,I a2] [] (I (len a1 a2)) []from cLength h0)]
theorem mEnd {y m d:Int} (h:0≤y):SCall Tryz.prog GL 179 [.agg [I y,I m,I d]] [] (.agg [I y,I m,I (len y m)]) []:=
 months_end_w ⟨h,rfl⟩
theorem months_Last_w {a1:Int} {res:SV} (H:((cE a1)≠0→B false=res)∧((cE a1)=0→B (((cY a1)==(cY a1))&&(((cM a1)==(cM a1))&&(((cD a1)==(len (cY a1) (cM a1)))&&true)))=res)):
  S 238 [I a1] [] res []:=by
 refine SCall.st fun X hX=> ?_
 obtain⟨H1,H2⟩:=H
 refine hX.go [i_,c_ [] (cOfT a1)] ?_
 by_cases h0:(cE a1)=0
 ·obtain rfl:=H2 h0
  exact hX.e [f_ (bne_eq_false_iff_eq.2 h0),i_,d_ 3,c_ [] (show S 179 [.agg [I (cY a1),I (cM a1),I (cD a1)]] [] (.agg [I (cY a1),I (cM a1),I (len (cY a1) (cM a1))]) []from mEnd (cY_nn _))]
 ·obtain rfl:=H1 h0
  exact hX.e [t_ (bne_iff_ne.2 h0)]
theorem cLast (n:Int):SCall Tryz.prog GL 238 [I n] [] (B (lastB n)) []:=by
 refine months_Last_w ⟨fun h=> ?_,fun h=> ?_⟩
 ·have:isDay n=false:=by rw[←Bool.not_eq_true,←cE_0];exact h
  simp[lastB,this]
 ·rw[cE_0]at h;simp[lastB,h]
def n7 (ya ma yb mb d1 d2:Int):Int:=360*(yb-ya)+30*(mb-ma)+(d2-d1)
def p7 (n:Int):Int×Int×Int:=mkI (if n<0 then 0 else n) 360
def sm7 (ya ma yb mb d1 d2:Int):Prop:=(-20000≤ya∧ya≤20000)∧(-20000≤ma∧ma≤20000)∧(-20000≤yb∧yb≤20000)∧(-20000≤mb∧mb≤20000)∧(-20000≤d1∧d1≤20000)∧(-20000≤d2∧d2≤20000)
def usD (eom f1 f2:Bool) (d1 d2:Int):Int×Int:=
 let e2:=if(eom&&f1&&f2)=true then 30 else d2
 let e1:=if(eom&&f1)=true then 30 else d1
 (if e1=31 then 30 else e1,if e2=31∧(e1=30∨e1=31)then 30 else e2)
def r7 (a b:Int) (d:Int×Int):Int×Int×Int:=if whyR a b=0 then p7 (n7 (cY a) (cM a) (cY b) (cM b) d.1 d.2)else(0,0,whyR a b)
def r7US (a b:Int) (eom:Bool):Int×Int×Int:=r7 a b (usD eom (lastB a&&(cM a==2)) (lastB b&&(cM b==2)) (cD a) (cD b))
theorem why_0 {a b:Int}:whyR a b=0↔isDay a=true∧isDay b=true∧ ¬a>b:=by
 unfold whyR;split
 ·rename_i h;split<;>simp_all
 ·rename_i h;simp only[show(3:Int)≠0 by decide,false_iff];intro h2;exact h ⟨h2.1,h2.2.1⟩
theorem r7_bad {a b:Int} {d:Int×Int} (h:whyR a b≠0):r7 a b d=(0,0,whyR a b):=by unfold r7;rw[if_neg h]
theorem sm_ok {a b d1 d2:Int} (h:whyR a b=0) (h1:0≤d1∧d1≤31) (h2:0≤d2∧d2≤31):sm7 (cY a) (cM a) (cY b) (cM b) d1 d2:=by
 rw[why_0]at h
 have:=civ_ok h.1
 have:=civ_ok h.2.1
 unfold sm7;omega
def r7E (a b:Int):Int×Int×Int:=r7 a b (if cD a=31 then 30 else cD a,if cD b=31 then 30 else cD b)
def r7Isda (a b e:Int):Int×Int×Int:=r7 a b (if lastB a=true then 30 else cD a,if lastB b=true∧ ¬(b=e∧cM b=2)then 30 else cD b)
theorem thirty_stand_feb_w {a1 a2 a3:Int} {a4:Bool} {res:SV} (H:(a4=true→B (a2==2)=res)∧(a4=false→B false=res)):
  S 183 [.agg [I a1,I a2,I a3,B a4]] [] res []:=by
 refine SCall.st fun X hX=> ?_
 obtain⟨H1,H2⟩:=H
 rcases bcase a4 with h0|h0
 ·obtain rfl:=H1 h0
  exact hX.e [t_ h0,t_ h0,t_ h0,t_ h0,t_ h0]
 ·obtain rfl:=H2 h0
  exact hX.e [f_ h0,f_ h0,f_ h0,f_ h0,f_ h0]
theorem febT {y m d:Int} {l:Bool}:SCall Tryz.prog GL 183 [.agg [I y,I m,I d,B l]] [] (B (l&&(m==2))) []:=
 thirty_stand_feb_w ⟨fun h=>by simp[h],fun h=>by simp[h]⟩
noncomputable def thirty_US_h0 (x1:Int) (x2:Int) (b3:Bool) (x4:Int) (x5:Int) (x6:Int) (x7:Int) (x8:Int) (x9:Int) (x10:Int) (b11:Bool) (x12:Int) (x13:Int) (x14:Int) (b15:Bool):SC:=
 ⟨[⟨182,slo 41 [(0, .ptr 9 0)],[.code (bodyAt Tryz.f182 [0,1,0,1]), .code (bodyAt Tryz.f182 [1])],{}⟩,⟨181,slo 92 [(6, .ptr 2 0),(12, .ptr 9 0),(41, .fn (.func 182) [] [.ptr 0 0]),(42, .ptr 9 0)],[.inRegion (opsAt Tryz.f181 [1,1,1,1,1,0]) [2], .code (bodyAt Tryz.f181 [1,1,1,1,1,1])],{}⟩,⟨142,[none,none,none,none,none,none,some (.ptr 1 0),none,some (I x1),some (I x2),some (.fn (.func 182) [] [.ptr 0 0]),none,none,none],[.inRegion (opsAt Tryz.f142 [1,0]) [3,4,5,6,7], .code (bodyAt Tryz.f142 [1,1])],{}⟩],[some (.box true [B b3]),some (.box true [I x4,I x5]),some (.box true [I x6,I x7]),none,none,none,none,none,none,some (.box true [I x8,I x9,I x10,B b11,I x12,I x13,I x14,B b15])]⟩
noncomputable def thirty_US_h1 (x1:Int) (x2:Int) (b3:Bool) (x4:Int) (x5:Int) (x6:Int) (x7:Int) (x8:Int) (x9:Int) (x10:Int) (b11:Bool) (x12:Int) (x13:Int) (x14:Int) (b15:Bool):SC:=
 ⟨[⟨182,slo 41 [(0, .ptr 9 0)],[.code (bodyAt Tryz.f182 [1])],{}⟩,⟨181,slo 92 [(6, .ptr 2 0),(12, .ptr 9 0),(41, .fn (.func 182) [] [.ptr 0 0]),(42, .ptr 9 0)],[.inRegion (opsAt Tryz.f181 [1,1,1,1,1,0]) [2], .code (bodyAt Tryz.f181 [1,1,1,1,1,1])],{}⟩,⟨142,[none,none,none,none,none,none,some (.ptr 1 0),none,some (I x1),some (I x2),some (.fn (.func 182) [] [.ptr 0 0]),none,none,none],[.inRegion (opsAt Tryz.f142 [1,0]) [3,4,5,6,7], .code (bodyAt Tryz.f142 [1,1])],{}⟩],[some (.box true [B b3]),some (.box true [I x4,I x5]),some (.box true [I x6,I x7]),none,none,none,none,none,none,some (.box true [I x8,I x9,I x10,B b11,I x12,I x13,I x14,B b15])]⟩
noncomputable def thirty_US_h2 (x1:Int) (x2:Int) (b3:Bool) (x4:Int) (x5:Int) (x6:Int) (x7:Int) (x8:Int) (x9:Int) (x10:Int) (b11:Bool) (x12:Int) (x13:Int) (x14:Int) (b15:Bool):SC:=
 ⟨[⟨182,slo 41 [(0, .ptr 9 0)],[.code (bodyAt Tryz.f182 [1,1])],{}⟩,⟨181,slo 92 [(6, .ptr 2 0),(12, .ptr 9 0),(41, .fn (.func 182) [] [.ptr 0 0]),(42, .ptr 9 0)],[.inRegion (opsAt Tryz.f181 [1,1,1,1,1,0]) [2], .code (bodyAt Tryz.f181 [1,1,1,1,1,1])],{}⟩,⟨142,[none,none,none,none,none,none,some (.ptr 1 0),none,some (I x1),some (I x2),some (.fn (.func 182) [] [.ptr 0 0]),none,none,none],[.inRegion (opsAt Tryz.f142 [1,0]) [3,4,5,6,7], .code (bodyAt Tryz.f142 [1,1])],{}⟩],[some (.box true [B b3]),some (.box true [I x4,I x5]),some (.box true [I x6,I x7]),none,none,none,none,none,none,some (.box true [I x8,I x9,I x10,B b11,I x12,I x13,I x14,B b15])]⟩
noncomputable def thirty_US_h3 (x1:Int) (x2:Int) (b3:Bool) (x4:Int) (x5:Int) (x6:Int) (x7:Int) (x8:Int) (x9:Int) (x10:Int) (b11:Bool) (x12:Int) (x13:Int) (x14:Int) (b15:Bool):SC:=
 ⟨[⟨181,slo 92 [(6, .ptr 2 0),(12, .ptr 9 0)],[.code (bodyAt Tryz.f181 [1,1,1,1,1,1])],{}⟩,⟨142,[none,none,none,none,none,none,some (.ptr 1 0),none,some (I x1),some (I x2),some (.fn (.func 182) [] [.ptr 0 0]),none,none,none],[.inRegion (opsAt Tryz.f142 [1,0]) [3,4,5,6,7], .code (bodyAt Tryz.f142 [1,1])],{}⟩],[some (.box true [B b3]),some (.box true [I x4,I x5]),some (.box true [I x6,I x7]),none,none,none,none,none,none,some (.box true [I x8,I x9,I x10,B b11,I x12,I x13,I x14,B b15])]⟩
theorem thirty_US_w0 {X:Cx} {a1 a2:Int} {a3:Bool} {res:SV} (hX:Fi X 142 [] res []) (H:((cE a1)≠0→(SV.tup [.agg [I 0,I 0],I 3])=res)∧((cE a1)=0→((cE a2)≠0→(SV.tup [.agg [I 0,I 0],I 3])=res)∧((cE a2)=0→(a1>a2→(SV.tup [.agg [I 0,I 0],I 4])=res)∧(¬a1>a2→(a3=true→(((lastB a1)&&((cM a1)==2))=true→(((lastB a2)&&((cM a2)==2))=true→Ok X (thirty_US_h0 a1 a2 a3 0 0 0 0 (cY a1) (cM a1) (cD a1) (lastB a1) (cY a2) (cM a2) 30 (lastB a2)))∧(((lastB a2)&&((cM a2)==2))=false→Ok X (thirty_US_h0 a1 a2 a3 0 0 0 0 (cY a1) (cM a1) (cD a1) (lastB a1) (cY a2) (cM a2) (cD a2) (lastB a2))))∧(((lastB a1)&&((cM a1)==2))=false→Ok X (thirty_US_h1 a1 a2 a3 0 0 0 0 (cY a1) (cM a1) (cD a1) (lastB a1) (cY a2) (cM a2) (cD a2) (lastB a2))))∧(a3=false→Ok X (thirty_US_h1 a1 a2 a3 0 0 0 0 (cY a1) (cM a1) (cD a1) (lastB a1) (cY a2) (cM a2) (cD a2) (lastB a2))))))):
  Ok X (entry Tryz.prog 142 [I a1,I a2,B a3] []):=by
 obtain⟨H1,H2⟩:=H
 refine hX.go [i_,i_,c_ [] (cOfT a1),h_ [.draw 5 [4] 1],c_ [] (cLast a1),q_ (show(I (cE a1):SV)=I (cE a1)from rfl),q_ (show(I (cE a1):SV)=I (cE a1)from rfl),i_,c_ [] (cOfT a2),h_ [.draw 5 [4] 1],c_ [] (cLast a2),q_ (show(I (cE a2):SV)=I (cE a2)from rfl),q_ (show(I (cE a2):SV)=I (cE a2)from rfl)] ?_
 by_cases h0:(cE a1)=0
 ·obtain⟨H1,H2⟩:=H2 h0
  refine hX.go [f_ (bne_eq_false_iff_eq.2 h0),f_ (bne_eq_false_iff_eq.2 h0),f_ (bne_eq_false_iff_eq.2 h0)] ?_
  by_cases h1:(cE a2)=0
  ·obtain⟨H1,H2⟩:=H2 h1
   refine hX.go [f_ (bne_eq_false_iff_eq.2 h1)] ?_
   by_cases h2:a1>a2
   ·obtain rfl:=H1 h2
    exact hX.e [t_ (dt h2)]
   ·obtain⟨H1,H2⟩:=H2 h2
    refine hX.go [f_ (df h2),i_] ?_
    rcases bcase a3 with h3|h3
    ·obtain⟨H1,H2⟩:=H1 h3
     refine hX.go [t_ h3,t_ h3,t_ h3,t_ h3,t_ h3,c_ [] (show S 183 [.agg [I (cY a1),I (cM a1),I (cD a1),B (lastB a1)]] [] (B ((lastB a1)&&((cM a1)==2))) []from febT),t_ h3] ?_
     rcases bcase ((lastB a1)&&((cM a1)==2))with h4|h4
     ·obtain⟨H1,H2⟩:=H1 h4
      refine hX.go [t_ h4,c_ [] (show S 183 [.agg [I (cY a2),I (cM a2),I (cD a2),B (lastB a2)]] [] (B ((lastB a2)&&((cM a2)==2))) []from febT)] ?_
      rcases bcase ((lastB a2)&&((cM a2)==2))with h5|h5
      ·exact hX.h 9 [t_ h5] [.old 0, .old 1, .old 2, .old 1003, .old 1004, .old 1005, .old 1006, .old 1007, .old 1008, .old 9] (H1 h5)
      ·exact hX.h 2 [f_ h5] [.old 0, .old 1, .old 2, .old 1003, .old 1004, .old 1005, .old 1006, .old 1007, .old 1008, .old 9] (H2 h5)
     ·exact hX.h 2 [f_ h4] [.old 0, .old 1, .old 2, .old 1003, .old 1004, .old 1005, .old 1006, .old 1007, .old 1008, .old 9] (H2 h4)
    ·exact hX.h 9 [f_ h3,f_ h3,f_ h3,f_ h3,f_ h3,f_ h3,f_ rf] [.old 0, .old 1, .old 2, .old 1003, .old 1004, .old 1005, .old 1006, .old 1007, .old 1008, .old 9] (H2 h3)
  ·obtain rfl:=H1 h1
   exact hX.e [t_ (bne_iff_ne.2 h1)]
 ·obtain rfl:=H1 h0
  exact hX.e [t_ (bne_iff_ne.2 h0),t_ (bne_iff_ne.2 h0),t_ (bne_iff_ne.2 h0),t_ rt]
theorem thirty_US_w1 {X:Cx} {x1 x2:Int} {b3:Bool} {x4 x5 x6 x7 x8 x9 x10:Int} {b11:Bool} {x12 x13 x14:Int} {b15:Bool} {res:SV} (hX:Fi X 142 [] res []) (H:Ok X (thirty_US_h1 x1 x2 b3 x4 x5 x6 x7 x8 x9 30 b11 x12 x13 x14 b15)):
  Ok X (thirty_US_h0 x1 x2 b3 x4 x5 x6 x7 x8 x9 x10 b11 x12 x13 x14 b15):=by
 exact hX.h 8 [] [.old 0, .old 1, .old 2, .old 1003, .old 1004, .old 1005, .old 1006, .old 1007, .old 1008, .old 9] H
theorem thirty_US_w2 {X:Cx} {x1 x2:Int} {b3:Bool} {x4 x5 x6 x7 x8 x9 x10:Int} {b11:Bool} {x12 x13 x14:Int} {b15:Bool} {res:SV} (hX:Fi X 142 [] res []) (H:(x10≥30→Ok X (thirty_US_h2 x1 x2 b3 x4 x5 x6 x7 x8 x9 x10 b11 x12 x13 (mnI x14 30) b15))∧(¬x10≥30→Ok X (thirty_US_h2 x1 x2 b3 x4 x5 x6 x7 x8 x9 x10 b11 x12 x13 x14 b15))):
  Ok X (thirty_US_h1 x1 x2 b3 x4 x5 x6 x7 x8 x9 x10 b11 x12 x13 x14 b15):=by
 obtain⟨H1,H2⟩:=H
 by_cases h0:x10≥30
 ·exact hX.h 32 [t_ (dt h0),i_] [.old 0, .old 1, .old 2, .old 1003, .old 1004, .old 1005, .old 1006, .old 1007, .old 1008, .old 9] (H1 h0)
 ·exact hX.h 13 [f_ (df h0)] [.old 0, .old 1, .old 2, .old 1003, .old 1004, .old 1005, .old 1006, .old 1007, .old 1008, .old 9] (H2 h0)
theorem thirty_US_w3 {X:Cx} {x1 x2:Int} {b3:Bool} {x4 x5 x6 x7 x8 x9 x10:Int} {b11:Bool} {x12 x13 x14:Int} {b15:Bool} {res:SV} (hX:Fi X 142 [] res []) (H:Ok X (thirty_US_h3 x1 x2 b3 x4 x5 x6 x7 x8 x9 (mnI x10 30) b11 x12 x13 x14 b15)):
  Ok X (thirty_US_h2 x1 x2 b3 x4 x5 x6 x7 x8 x9 x10 b11 x12 x13 x14 b15):=by
 exact hX.h 22 [i_] [.old 0, .old 1, .old 2, .old 1003, .old 1004, .old 1005, .old 1006, .old 1007, .old 1008, .old 9] H
theorem thirty_US_w4 {X:Cx} {x1 x2:Int} {b3:Bool} {x4 x5 x6 x7 x8 x9 x10:Int} {b11:Bool} {x12 x13 x14:Int} {b15:Bool} {res:SV} (hX:Fi X 142 [] res []) (H:Ir (x12-x8)∧Ir (360*(x12-x8))∧Ir (x13-x9)∧Ir (30*(x13-x9))∧Ir ((360*(x12-x8))+(30*(x13-x9)))∧Ir (((360*(x12-x8))+(30*(x13-x9)))+x14)∧Ir ((((360*(x12-x8))+(30*(x13-x9)))+x14)-x10)∧I63 (mxI 0 ((((360*(x12-x8))+(30*(x13-x9)))+x14)-x10))∧RT (mkI (mxI 0 ((((360*(x12-x8))+(30*(x13-x9)))+x14)-x10)) 360)=res):
  Ok X (thirty_US_h3 x1 x2 b3 x4 x5 x6 x7 x8 x9 x10 b11 x12 x13 x14 b15):=by
 obtain⟨h0,h1,h2,h3,h4,h5,h6,h7,rfl⟩:=H
 exact hX.e [q_ h0,q_ h1,q_ h2,q_ h3,q_ h4,q_ h5,q_ h6,d_ 42,c_ [] (show S 191 [I (mxI 0 ((((360*(x12-x8))+(30*(x13-x9)))+x14)-x10)),I 360] [] (RT (mkI (mxI 0 ((((360*(x12-x8))+(30*(x13-x9)))+x14)-x10)) 360)) []from r_NewI h7 (by decide))]
theorem why_c {a b:Int}:(cE a≠0→whyR a b=3)∧(cE b≠0→whyR a b=3)∧(cE a=0→cE b=0→a>b→whyR a b=4)∧(cE a=0→cE b=0→ ¬a>b→whyR a b=0):=by
 simp only[ne_eq,cE_0];unfold whyR
 refine⟨fun h=> ?_,fun h=> ?_,fun h1 h2 h3=> ?_,fun h1 h2 h3=> ?_⟩<;>simp_all
theorem thi_fin {a b d1 d2:Int} (h:whyR a b=0) (h1:0≤d1∧d1≤31) (h2:0≤d2∧d2≤31):InR .i64 (cY b-cY a)∧InR .i64 (360*(cY b-cY a))∧InR .i64 (cM b-cM a)∧InR .i64 (30*(cM b-cM a))∧InR .i64 ((360*(cY b-cY a))+(30*(cM b-cM a)))∧InR .i64 (((360*(cY b-cY a))+(30*(cM b-cM a)))+d2)∧InR .i64 ((((360*(cY b-cY a))+(30*(cM b-cM a)))+d2)-d1)∧I63 (mxI 0 ((((360*(cY b-cY a))+(30*(cM b-cM a)))+d2)-d1))∧
  RT (mkI (mxI 0 ((((360*(cY b-cY a))+(30*(cM b-cM a)))+d2)-d1)) 360)=RT (p7 (n7 (cY a) (cM a) (cY b) (cM b) d1 d2)):=by
 have:=sm_ok h h1 h2
 unfold sm7 at this
 refine⟨?_, ?_, ?_, ?_, ?_, ?_, ?_, ?_, ?_⟩<;>(try simp only[Ir,InR])<;>(try unfold I63 mxI)<;>(try omega)
 unfold p7 n7
 show RT (mkI (if(0:Int)<(((360*(cY b-cY a))+(30*(cM b-cM a)))+d2)-d1 then(((360*(cY b-cY a))+(30*(cM b-cM a)))+d2)-d1 else 0) 360)=_
 rw[show(if(0:Int)<(((360*(cY b-cY a))+(30*(cM b-cM a)))+d2)-d1 then(((360*(cY b-cY a))+(30*(cM b-cM a)))+d2)-d1 else 0)=if 360*(cY b-cY a)+30*(cM b-cM a)+(d2-d1)<0 then 0 else 360*(cY b-cY a)+30*(cM b-cM a)+(d2-d1)by split<;>split<;>omega]
theorem thiUS (a b:Int) (eom:Bool):SCall Tryz.prog GL 142 [I a,I b,B eom] [] (RT (r7US a b eom)) []:=by
 refine SCall.of (by kernel_rfl) rfl trivial rfl (fun X hX=> ?_)
 refine thirty_US_w0 hX ⟨fun h=>by rw[r7US,r7_bad]<;>rw[why_c.1 h];decide,fun h=>⟨fun h1=>by rw[r7US,r7_bad]<;>rw[why_c.2.1 h1];decide,fun h1=>⟨fun h2=>by rw[r7US,r7_bad]<;>rw[why_c.2.2.1 h h1 h2];decide,fun h2=> ?_⟩⟩⟩
 have h:=why_c.2.2.2 h h1 h2
 have hD:(1≤cD a∧cD a≤31)∧(1≤cD b∧cD b≤31):=by
  have h':=why_0.1 h
  have:=civ_ok h'.1
  have:=civ_ok h'.2.1
  omega
 unfold r7US r7 at hX
 rw[if_pos h]at hX
 generalize hf1:(lastB a&&(cM a==2))=f1 at hX⊢
 generalize hf2:(lastB b&&(cM b==2))=f2 at hX⊢
 have S3: ∀ d1 d2,(d1,d2)=usD eom f1 f2 (cD a) (cD b)→0≤d1∧d1≤31→0≤d2∧d2≤31→Ok X (thirty_US_h3 a b eom 0 0 0 0 (cY a) (cM a) d1 (lastB a) (cY b) (cM b) d2 (lastB b)):=fun d1 d2 e h1 h2=>by
  rw[←e]at hX
  exact thirty_US_w4 hX (thi_fin h h1 h2)
 have S1: ∀ d1 d2,(mnI d1 30,if d1≥30 then mnI d2 30 else d2)=usD eom f1 f2 (cD a) (cD b)→0≤d1∧d1≤31→0≤d2∧d2≤31→Ok X (thirty_US_h1 a b eom 0 0 0 0 (cY a) (cM a) d1 (lastB a) (cY b) (cM b) d2 (lastB b)):=fun d1 d2 e h1 h2=>
  thirty_US_w2 hX ⟨fun c=>thirty_US_w3 hX (S3 _ _ (by rw[←e,if_pos c]) (by unfold mnI;omega) (by unfold mnI;omega)),fun c=>thirty_US_w3 hX (S3 _ _ (by rw[←e,if_neg c]) (by unfold mnI;omega) h2)⟩
 have S0: ∀ d1 d2,(mnI 30 30,mnI d2 30)=usD eom f1 f2 (cD a) (cD b)→0≤d2∧d2≤31→Ok X (thirty_US_h0 a b eom 0 0 0 0 (cY a) (cM a) d1 (lastB a) (cY b) (cM b) d2 (lastB b)):=fun d1 d2 e h2=>
  thirty_US_w1 hX (S1 30 d2 (by rw[←e];rfl) (by omega) h2)
 have key: ∀ d1 d2:Int,1≤d1∧d1≤31→1≤d2∧d2≤31→(mnI d1 30,if d1≥30 then mnI d2 30 else d2)=(if d1=31 then 30 else d1,if d2=31∧(d1=30∨d1=31)then 30 else d2):=fun d1 d2 h1 h2=>by
  simp only[mnI,Prod.mk.injEq];constructor<;>(repeat' split)<;>omega
 refine⟨fun c=>⟨fun c1=>⟨fun c2=>S0 _ _ ?_ (by omega),fun c2=>S0 _ _ ?_ (by omega)⟩,fun c1=>S1 _ _ ?_ (by omega) (by omega)⟩,fun c=>S1 _ _ ?_ (by omega) (by omega)⟩
 ·rw[show usD eom f1 f2 (cD a) (cD b)=(if(30:Int)=31 then 30 else 30,if(30:Int)=31∧((30:Int)=30∨(30:Int)=31)then 30 else 30)by simp[usD,c,c1,c2]];rfl
 ·rw[show usD eom f1 f2 (cD a) (cD b)=(if(30:Int)=31 then 30 else 30,if cD b=31∧((30:Int)=30∨(30:Int)=31)then 30 else cD b)by simp[usD,c,c1,c2],←key _ _ (by omega) (by omega)];rfl
 ·rw[show usD eom f1 f2 (cD a) (cD b)=(if cD a=31 then 30 else cD a,if cD b=31∧(cD a=30∨cD a=31)then 30 else cD b)by simp[usD,c,c1],←key _ _ (by omega) (by omega)]
 ·rw[show usD eom f1 f2 (cD a) (cD b)=(if cD a=31 then 30 else cD a,if cD b=31∧(cD a=30∨cD a=31)then 30 else cD b)by simp[usD,c],←key _ _ (by omega) (by omega)]
theorem thirty_E_w {a1 a2:Int} {res:SV} (H:((cE a1)≠0→(SV.tup [.agg [I 0,I 0],I 3])=res)∧((cE a1)=0→((cE a2)≠0→(SV.tup [.agg [I 0,I 0],I 3])=res)∧((cE a2)=0→(a1>a2→(SV.tup [.agg [I 0,I 0],I 4])=res)∧(¬a1>a2→Ir ((cY a2)-(cY a1))∧Ir (360*((cY a2)-(cY a1)))∧Ir ((cM a2)-(cM a1))∧Ir (30*((cM a2)-(cM a1)))∧Ir ((360*((cY a2)-(cY a1)))+(30*((cM a2)-(cM a1))))∧Ir (((360*((cY a2)-(cY a1)))+(30*((cM a2)-(cM a1))))+(mnI (cD a2) 30))∧Ir ((((360*((cY a2)-(cY a1)))+(30*((cM a2)-(cM a1))))+(mnI (cD a2) 30))-(mnI (cD a1) 30))∧I63 (mxI 0 ((((360*((cY a2)-(cY a1)))+(30*((cM a2)-(cM a1))))+(mnI (cD a2) 30))-(mnI (cD a1) 30)))∧RT (mkI (mxI 0 ((((360*((cY a2)-(cY a1)))+(30*((cM a2)-(cM a1))))+(mnI (cD a2) 30))-(mnI (cD a1) 30))) 360)=res)))):
  S 144 [I a1,I a2] [] res []:=by
 refine SCall.st fun X hX=> ?_
 obtain⟨H1,H2⟩:=H
 refine hX.go [i_,i_,i_,c_ [] (cOfT a1),h_ [.draw 5 [4] 1],c_ [] (cLast a1),q_ (show(I (cE a1):SV)=I (cE a1)from rfl),q_ (show(I (cE a1):SV)=I (cE a1)from rfl),i_,c_ [] (cOfT a2),h_ [.draw 5 [4] 1],c_ [] (cLast a2),q_ (show(I (cE a2):SV)=I (cE a2)from rfl),q_ (show(I (cE a2):SV)=I (cE a2)from rfl)] ?_
 by_cases h0:(cE a1)=0
 ·obtain⟨H1,H2⟩:=H2 h0
  refine hX.go [f_ (bne_eq_false_iff_eq.2 h0),f_ (bne_eq_false_iff_eq.2 h0),f_ (bne_eq_false_iff_eq.2 h0)] ?_
  by_cases h1:(cE a2)=0
  ·obtain⟨H1,H2⟩:=H2 h1
   refine hX.go [f_ (bne_eq_false_iff_eq.2 h1)] ?_
   by_cases h2:a1>a2
   ·obtain rfl:=H1 h2
    exact hX.e [t_ (dt h2)]
   ·obtain⟨h3,h4,h5,h6,h7,h8,h9,h10,rfl⟩:=H2 h2
    exact hX.e [f_ (df h2),q_ h3,q_ h4,q_ h5,q_ h6,q_ h7,q_ h8,q_ h9,i_,d_ 4,i_,d_ 4,i_,d_ 42,c_ [] (show S 191 [I (mxI 0 ((((360*((cY a2)-(cY a1)))+(30*((cM a2)-(cM a1))))+(mnI (cD a2) 30))-(mnI (cD a1) 30))),I 360] [] (RT (mkI (mxI 0 ((((360*((cY a2)-(cY a1)))+(30*((cM a2)-(cM a1))))+(mnI (cD a2) 30))-(mnI (cD a1) 30))) 360)) []from r_NewI h10 (by decide))]
  ·obtain rfl:=H1 h1
   exact hX.e [t_ (bne_iff_ne.2 h1)]
 ·obtain rfl:=H1 h0
  exact hX.e [t_ (bne_iff_ne.2 h0),t_ (bne_iff_ne.2 h0),t_ (bne_iff_ne.2 h0),t_ rt]
theorem thiE (a b:Int):SCall Tryz.prog GL 144 [I a,I b] [] (RT (r7E a b)) []:=by
 refine thirty_E_w ⟨fun h=>by rw[r7E,r7_bad]<;>rw[why_c.1 h];decide,fun h=>⟨fun h1=>by rw[r7E,r7_bad]<;>rw[why_c.2.1 h1];decide,fun h1=>⟨fun h2=>by rw[r7E,r7_bad]<;>rw[why_c.2.2.1 h h1 h2];decide,fun h2=> ?_⟩⟩⟩
 have h:=why_c.2.2.2 h h1 h2
 have hD:(1≤cD a∧cD a≤31)∧(1≤cD b∧cD b≤31):=by
  have h':=why_0.1 h
  have:=civ_ok h'.1
  have:=civ_ok h'.2.1
  omega
 have:=thi_fin (d1:=mnI (cD a) 30) (d2:=mnI (cD b) 30) h (by unfold mnI;omega) (by unfold mnI;omega)
 unfold r7E r7
 rw[if_pos h,show(if cD a=31 then 30 else cD a)=mnI (cD a) 30 by unfold mnI;split<;>split<;>omega,show(if cD b=31 then 30 else cD b)=mnI (cD b) 30 by unfold mnI;split<;>split<;>omega]
 exact this
noncomputable def thirty_Isda_h0 (b1:Bool) (x2:Int) (x3:Int) (x4:Int) (x5:Int) (x6:Int) (x7:Int) (x8:Int) (x9:Int) (x10:Int) (x11:Int) (x12:Int) (b13:Bool) (x14:Int) (x15:Int) (x16:Int) (b17:Bool):SC:=
 ⟨[⟨187,slo 34 [(0, .ptr 10 0),(4,B b1)],[.code (bodyAt Tryz.f187 [1])],{}⟩,⟨181,slo 92 [(6, .ptr 3 0),(12, .ptr 10 0),(41, .fn (.func 187) [] [.ptr 0 0, .ptr 1 0]),(42, .ptr 10 0)],[.inRegion (opsAt Tryz.f181 [1,1,1,1,1,0]) [2], .code (bodyAt Tryz.f181 [1,1,1,1,1,1])],{}⟩,⟨146,[none,none,none,none,none,none,some (.ptr 2 0),none,some (I x2),some (I x3),some (.fn (.func 187) [] [.ptr 0 0, .ptr 1 0]),none,none,none],[.inRegion (opsAt Tryz.f146 [1,0]) [3,4,5,6,7], .code (bodyAt Tryz.f146 [1,1])],{}⟩],[some (.box true [I x4]),some (.box true [I x5]),some (.box true [I x6,I x7]),some (.box true [I x8,I x9]),none,none,none,none,none,none,some (.box true [I x10,I x11,I x12,B b13,I x14,I x15,I x16,B b17])]⟩
noncomputable def thirty_Isda_h1 (b1:Bool) (x2:Int) (x3:Int) (x4:Int) (x5:Int) (x6:Int) (x7:Int) (x8:Int) (x9:Int) (x10:Int) (x11:Int) (x12:Int) (x13:Int) (b14:Bool) (x15:Int) (x16:Int) (x17:Int) (b18:Bool):SC:=
 ⟨[⟨219,[some (.ptr 10 0),some (.ptr 11 0),none,none,none,none,none,none,none,none,none,none,none],[.code (bodyAt Tryz.f219 [1])],{}⟩,⟨187,slo 34 [(0, .ptr 10 0),(4,B b1),(5,I x2),(24, .fn (.func 219) [] [.ptr 11 0]),(25, .ptr 10 0)],[.inRegion (opsAt Tryz.f187 [1,1,0]) [2], .code (bodyAt Tryz.f187 [1,1,1])],{}⟩,⟨181,slo 92 [(6, .ptr 3 0),(12, .ptr 10 0),(41, .fn (.func 187) [] [.ptr 0 0, .ptr 1 0]),(42, .ptr 10 0)],[.inRegion (opsAt Tryz.f181 [1,1,1,1,1,0]) [2], .code (bodyAt Tryz.f181 [1,1,1,1,1,1])],{}⟩,⟨146,[none,none,none,none,none,none,some (.ptr 2 0),none,some (I x3),some (I x4),some (.fn (.func 187) [] [.ptr 0 0, .ptr 1 0]),none,none,none],[.inRegion (opsAt Tryz.f146 [1,0]) [3,4,5,6,7], .code (bodyAt Tryz.f146 [1,1])],{}⟩],[some (.box true [I x5]),some (.box true [I x6]),some (.box true [I x7,I x8]),some (.box true [I x9,I x10]),none,none,none,none,none,none,some (.box true [I x11,I x12,I x13,B b14,I x15,I x16,I x17,B b18]),some (.box true [.fn (.func 188) [] []])]⟩
noncomputable def thirty_Isda_h2 (b1:Bool) (x2:Int) (x3:Int) (x4:Int) (x5:Int) (x6:Int) (x7:Int) (x8:Int) (x9:Int) (x10:Int) (x11:Int) (x12:Int) (x13:Int) (b14:Bool) (x15:Int) (x16:Int) (x17:Int) (b18:Bool):SC:=
 ⟨[⟨187,slo 34 [(0, .ptr 10 0),(4,B b1),(5,I x2)],[.code (bodyAt Tryz.f187 [1,1,1])],{}⟩,⟨181,slo 92 [(6, .ptr 3 0),(12, .ptr 10 0),(41, .fn (.func 187) [] [.ptr 0 0, .ptr 1 0]),(42, .ptr 10 0)],[.inRegion (opsAt Tryz.f181 [1,1,1,1,1,0]) [2], .code (bodyAt Tryz.f181 [1,1,1,1,1,1])],{}⟩,⟨146,[none,none,none,none,none,none,some (.ptr 2 0),none,some (I x3),some (I x4),some (.fn (.func 187) [] [.ptr 0 0, .ptr 1 0]),none,none,none],[.inRegion (opsAt Tryz.f146 [1,0]) [3,4,5,6,7], .code (bodyAt Tryz.f146 [1,1])],{}⟩],[some (.box true [I x5]),some (.box true [I x6]),some (.box true [I x7,I x8]),some (.box true [I x9,I x10]),none,none,none,none,none,none,some (.box true [I x11,I x12,I x13,B b14,I x15,I x16,I x17,B b18])]⟩
noncomputable def thirty_Isda_h3 (x1:Int) (x2:Int) (x3:Int) (x4:Int) (x5:Int) (x6:Int) (x7:Int) (x8:Int) (x9:Int) (x10:Int) (x11:Int) (b12:Bool) (x13:Int) (x14:Int) (x15:Int) (b16:Bool):SC:=
 ⟨[⟨181,slo 92 [(6, .ptr 3 0),(12, .ptr 10 0)],[.code (bodyAt Tryz.f181 [1,1,1,1,1,1])],{}⟩,⟨146,[none,none,none,none,none,none,some (.ptr 2 0),none,some (I x1),some (I x2),some (.fn (.func 187) [] [.ptr 0 0, .ptr 1 0]),none,none,none],[.inRegion (opsAt Tryz.f146 [1,0]) [3,4,5,6,7], .code (bodyAt Tryz.f146 [1,1])],{}⟩],[some (.box true [I x3]),some (.box true [I x4]),some (.box true [I x5,I x6]),some (.box true [I x7,I x8]),none,none,none,none,none,none,some (.box true [I x9,I x10,I x11,B b12,I x13,I x14,I x15,B b16])]⟩
theorem thirty_Isda_w0 {X:Cx} {a1 a2 a3:Int} {res:SV} (hX:Fi X 146 [] res []) (H:((cE a1)≠0→(SV.tup [.agg [I 0,I 0],I 3])=res)∧((cE a1)=0→((cE a2)≠0→(SV.tup [.agg [I 0,I 0],I 3])=res)∧((cE a2)=0→(a1>a2→(SV.tup [.agg [I 0,I 0],I 4])=res)∧(¬a1>a2→(a2=a3→Ok X (thirty_Isda_h0 ((cM a2)==2) a1 a2 a2 a3 0 0 0 0 (cY a1) (cM a1) (cD a1) (lastB a1) (cY a2) (cM a2) (cD a2) (lastB a2)))∧(a2≠a3→Ok X (thirty_Isda_h0 false a1 a2 a2 a3 0 0 0 0 (cY a1) (cM a1) (cD a1) (lastB a1) (cY a2) (cM a2) (cD a2) (lastB a2))))))):
  Ok X (entry Tryz.prog 146 [I a1,I a2,I a3] []):=by
 obtain⟨H1,H2⟩:=H
 refine hX.go [i_,i_,c_ [] (cOfT a1),h_ [.draw 5 [4] 1],c_ [] (cLast a1),q_ (show(I (cE a1):SV)=I (cE a1)from rfl),q_ (show(I (cE a1):SV)=I (cE a1)from rfl),i_,c_ [] (cOfT a2),h_ [.draw 5 [4] 1],c_ [] (cLast a2),q_ (show(I (cE a2):SV)=I (cE a2)from rfl),q_ (show(I (cE a2):SV)=I (cE a2)from rfl)] ?_
 by_cases h0:(cE a1)=0
 ·obtain⟨H1,H2⟩:=H2 h0
  refine hX.go [f_ (bne_eq_false_iff_eq.2 h0),f_ (bne_eq_false_iff_eq.2 h0),f_ (bne_eq_false_iff_eq.2 h0)] ?_
  by_cases h1:(cE a2)=0
  ·obtain⟨H1,H2⟩:=H2 h1
   refine hX.go [f_ (bne_eq_false_iff_eq.2 h1)] ?_
   by_cases h2:a1>a2
   ·obtain rfl:=H1 h2
    exact hX.e [t_ (dt h2)]
   ·obtain⟨H1,H2⟩:=H2 h2
    refine hX.go [f_ (df h2),i_] ?_
    by_cases h3:a2=a3
    ·exact hX.h 10 [t_ (beq_iff_eq.2 h3),t_ (beq_iff_eq.2 h3),t_ (beq_iff_eq.2 h3),t_ (beq_iff_eq.2 h3),t_ (beq_iff_eq.2 h3),t_ (beq_iff_eq.2 h3),t_ (beq_iff_eq.2 h3),t_ (beq_iff_eq.2 h3)] [.old 0, .old 1, .old 2, .old 3, .old 1004, .old 1005, .old 1006, .old 1007, .old 1008, .old 1009, .old 10] (H1 h3)
    ·exact hX.h 10 [f_ (beq_eq_false_iff_ne.2 h3),f_ (beq_eq_false_iff_ne.2 h3),f_ (beq_eq_false_iff_ne.2 h3),f_ (beq_eq_false_iff_ne.2 h3),f_ (beq_eq_false_iff_ne.2 h3),f_ (beq_eq_false_iff_ne.2 h3),f_ (beq_eq_false_iff_ne.2 h3),f_ (beq_eq_false_iff_ne.2 h3)] [.old 0, .old 1, .old 2, .old 3, .old 1004, .old 1005, .old 1006, .old 1007, .old 1008, .old 1009, .old 10] (H2 h3)
  ·obtain rfl:=H1 h1
   exact hX.e [t_ (bne_iff_ne.2 h1)]
 ·obtain rfl:=H1 h0
  exact hX.e [t_ (bne_iff_ne.2 h0),t_ (bne_iff_ne.2 h0),t_ (bne_iff_ne.2 h0),t_ rt]
theorem thirty_Isda_w1 {X:Cx} {b1:Bool} {x2 x3 x4 x5 x6 x7 x8 x9 x10 x11 x12:Int} {b13:Bool} {x14 x15 x16:Int} {b17:Bool} {res:SV} (hX:Fi X 146 [] res []) (H:(b13=true→Ok X (thirty_Isda_h1 b1 x16 x2 x3 x4 x5 x6 x7 x8 x9 x10 x11 30 b13 x14 x15 x16 b17))∧(b13=false→Ok X (thirty_Isda_h1 b1 x16 x2 x3 x4 x5 x6 x7 x8 x9 x10 x11 x12 b13 x14 x15 x16 b17))):
  Ok X (thirty_Isda_h0 b1 x2 x3 x4 x5 x6 x7 x8 x9 x10 x11 x12 b13 x14 x15 x16 b17):=by
 obtain⟨H1,H2⟩:=H
 refine hX.go [i_,i_,d_ 4,i_] ?_
 rcases bcase b13 with h0|h0
 ·exact hX.h 10 [t_ h0] [.old 0, .old 1, .old 2, .old 3, .old 1004, .old 1005, .old 1006, .old 1007, .old 1008, .old 1009, .old 10, .old 11] (H1 h0)
 ·exact hX.h 4 [f_ h0] [.old 0, .old 1, .old 2, .old 3, .old 1004, .old 1005, .old 1006, .old 1007, .old 1008, .old 1009, .old 10, .old 11] (H2 h0)
theorem thirty_Isda_w2 {X:Cx} {b1:Bool} {x2 x3 x4 x5 x6 x7 x8 x9 x10 x11 x12 x13:Int} {b14:Bool} {x15 x16 x17:Int} {b18:Bool} {res:SV} (hX:Fi X 146 [] res []) (H:(b18=true→Ok X (thirty_Isda_h2 b1 x2 x3 x4 x5 x6 x7 x8 x9 x10 x11 x12 x13 b14 x15 x16 30 b18))∧(b18=false→Ok X (thirty_Isda_h2 b1 x2 x3 x4 x5 x6 x7 x8 x9 x10 x11 x12 x13 b14 x15 x16 x17 b18))):
  Ok X (thirty_Isda_h1 b1 x2 x3 x4 x5 x6 x7 x8 x9 x10 x11 x12 x13 b14 x15 x16 x17 b18):=by
 obtain⟨H1,H2⟩:=H
 refine hX.go [d_ 4,i_] ?_
 rcases bcase b18 with h0|h0
 ·exact hX.h 12 [t_ h0] [.old 0, .old 1, .old 2, .old 3, .old 1004, .old 1005, .old 1006, .old 1007, .old 1008, .old 1009, .old 10] (H1 h0)
 ·exact hX.h 6 [f_ h0] [.old 0, .old 1, .old 2, .old 3, .old 1004, .old 1005, .old 1006, .old 1007, .old 1008, .old 1009, .old 10] (H2 h0)
theorem thirty_Isda_w3 {X:Cx} {b1:Bool} {x2 x3 x4 x5 x6 x7 x8 x9 x10 x11 x12 x13:Int} {b14:Bool} {x15 x16 x17:Int} {b18:Bool} {res:SV} (hX:Fi X 146 [] res []) (H:(b1=true→Ok X (thirty_Isda_h3 x3 x4 x5 x6 x7 x8 x9 x10 x11 x12 x13 b14 x15 x16 x2 b18))∧(b1=false→Ok X (thirty_Isda_h3 x3 x4 x5 x6 x7 x8 x9 x10 x11 x12 x13 b14 x15 x16 x17 b18))):
  Ok X (thirty_Isda_h2 b1 x2 x3 x4 x5 x6 x7 x8 x9 x10 x11 x12 x13 b14 x15 x16 x17 b18):=by
 obtain⟨H1,H2⟩:=H
 rcases bcase b1 with h0|h0
 ·exact hX.h 16 [t_ h0] [.old 0, .old 1, .old 2, .old 3, .old 1004, .old 1005, .old 1006, .old 1007, .old 1008, .old 1009, .old 10] (H1 h0)
 ·exact hX.h 8 [f_ h0] [.old 0, .old 1, .old 2, .old 3, .old 1004, .old 1005, .old 1006, .old 1007, .old 1008, .old 1009, .old 10] (H2 h0)
theorem thirty_Isda_w4 {X:Cx} {x1 x2 x3 x4 x5 x6 x7 x8 x9 x10 x11:Int} {b12:Bool} {x13 x14 x15:Int} {b16:Bool} {res:SV} (hX:Fi X 146 [] res []) (H:Ir (x13-x9)∧Ir (360*(x13-x9))∧Ir (x14-x10)∧Ir (30*(x14-x10))∧Ir ((360*(x13-x9))+(30*(x14-x10)))∧Ir (((360*(x13-x9))+(30*(x14-x10)))+x15)∧Ir ((((360*(x13-x9))+(30*(x14-x10)))+x15)-x11)∧I63 (mxI 0 ((((360*(x13-x9))+(30*(x14-x10)))+x15)-x11))∧RT (mkI (mxI 0 ((((360*(x13-x9))+(30*(x14-x10)))+x15)-x11)) 360)=res):
  Ok X (thirty_Isda_h3 x1 x2 x3 x4 x5 x6 x7 x8 x9 x10 x11 b12 x13 x14 x15 b16):=by
 obtain⟨h0,h1,h2,h3,h4,h5,h6,h7,rfl⟩:=H
 exact hX.e [q_ h0,q_ h1,q_ h2,q_ h3,q_ h4,q_ h5,q_ h6,d_ 42,c_ [] (show S 191 [I (mxI 0 ((((360*(x13-x9))+(30*(x14-x10)))+x15)-x11)),I 360] [] (RT (mkI (mxI 0 ((((360*(x13-x9))+(30*(x14-x10)))+x15)-x11)) 360)) []from r_NewI h7 (by decide))]
theorem isda_aux (P:Prop) [Decidable P] (l:Bool) (d:Int):(if l=true∧ ¬P then(30:Int)else d)=if l=true then(if decide P=true then d else 30)else d:=by
 by_cases h:P<;>cases l<;>simp[h]
theorem thiIsda (a b e:Int):SCall Tryz.prog GL 146 [I a,I b,I e] [] (RT (r7Isda a b e)) []:=by
 refine SCall.of (by kernel_rfl) rfl trivial rfl (fun X hX=> ?_)
 refine thirty_Isda_w0 hX ⟨fun h=>by rw[r7Isda,r7_bad]<;>rw[why_c.1 h];decide,fun h=>⟨fun h1=>by rw[r7Isda,r7_bad]<;>rw[why_c.2.1 h1];decide,fun h1=>⟨fun h2=>by rw[r7Isda,r7_bad]<;>rw[why_c.2.2.1 h h1 h2];decide,fun h2=> ?_⟩⟩⟩
 have h:=why_c.2.2.2 h h1 h2
 have hD:(1≤cD a∧cD a≤31)∧(1≤cD b∧cD b≤31):=by
  have h':=why_0.1 h
  have:=civ_ok h'.1
  have:=civ_ok h'.2.1
  omega
 unfold r7Isda r7 at hX
 rw[if_pos h]at hX
 have S3: ∀ d1 d2,(d1,d2)=(if lastB a=true then(30:Int)else cD a,if lastB b=true∧ ¬(b=e∧cM b=2)then(30:Int)else cD b)→0≤d1∧d1≤31→0≤d2∧d2≤31→Ok X (thirty_Isda_h3 a b b e 0 0 0 0 (cY a) (cM a) d1 (lastB a) (cY b) (cM b) d2 (lastB b)):=fun d1 d2 e h1 h2=>by
  rw[←e]at hX
  exact thirty_Isda_w4 hX (thi_fin h h1 h2)
 have S0: ∀ k:Bool,k=decide (b=e∧cM b=2)→Ok X (thirty_Isda_h0 k a b b e 0 0 0 0 (cY a) (cM a) (cD a) (lastB a) (cY b) (cM b) (cD b) (lastB b)):=fun k hk=>by
  refine thirty_Isda_w1 hX ⟨fun c=>thirty_Isda_w2 hX ⟨fun c1=>thirty_Isda_w3 hX ⟨fun c2=>S3 _ _ ?_ (by omega) (by omega),fun c2=>S3 _ _ ?_ (by omega) (by omega)⟩,fun c1=>thirty_Isda_w3 hX ⟨fun c2=>S3 _ _ ?_ (by omega) (by omega),fun c2=>S3 _ _ ?_ (by omega) (by omega)⟩⟩,
   fun c=>thirty_Isda_w2 hX ⟨fun c1=>thirty_Isda_w3 hX ⟨fun c2=>S3 _ _ ?_ (by omega) (by omega),fun c2=>S3 _ _ ?_ (by omega) (by omega)⟩,fun c1=>thirty_Isda_w3 hX ⟨fun c2=>S3 _ _ ?_ (by omega) (by omega),fun c2=>S3 _ _ ?_ (by omega) (by omega)⟩⟩⟩<;>
   rw[isda_aux,←hk]<;>simp only[c,c1,c2,if_true,if_false,Bool.false_eq_true]
 exact⟨fun c=>S0 _ (by simp[c];rfl),fun c=>S0 _ (by simp[c])⟩
end Go.Proofs.YtelidogcomffkaaGreatDoor
