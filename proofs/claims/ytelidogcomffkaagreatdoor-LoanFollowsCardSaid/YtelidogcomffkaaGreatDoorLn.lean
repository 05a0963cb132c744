/-
What is done with a loan (chapter 22).
-/
import Derived.Test.YtelidogcomffkaaGreatDoorLd
import Derived.Test.YtelidogcomffkaaGreatDoorProg
import Derived.KernelRfl
set_option linter.unusedSectionVars false
set_option linter.unusedSimpArgs false
set_option linter.unusedVariables false
set_option maxRecDepth 100000
namespace Go.Proofs.YtelidogcomffkaaGreatDoor
open Go Go.Sx
variable [EnvT]
theorem lday_w {a1:Int} {res:SV} (H:(B ((cE a1)==0):SV)=res):
  S 34 [I a1] [] (res) []:=by
 refine SCall.st fun X hX=> ?_
 have HE:=H
 exact(hX.to HE.symm).e [c_ [] (cOfT a1)]
theorem lnDay (n:Int):S 34 [I n] [] (B (isDay n)) []:=by
 refine lday_w ?_
 unfold cE
 rcases bcase (isDay n)with h|h
 ·rw[if_pos h,h];rfl
 ·rw[if_neg (by rw[h];decide),h];rfl
theorem lBet (L:Ln) (a b:Int) (h1:Ir L.op) (h2:Ir L.t.a2):S 89 [.agg [I L.t.a1,I L.t.a2,I L.t.a3,I L.t.a4,I L.t.a5,I L.t.a6,I L.t.a7,B L.t.a8,B L.t.a9,B L.t.a10,I L.t.a11], .agg [B L.eo,I L.en,I L.fq, .sl 0 L.nk],I L.op,I a,I b] [ri L.nk L.V] (.tup [I (inB L a b),I (inE L a b)]) []:=aBet h1 h2
noncomputable def lGo_h0 (L:Ln) (a1:Int) (x1:Int) (x2:Int) (x3:Int):SC:=
 ⟨[⟨38,slo 33 [(0, .ptr 6 0),(1,I a1),(11, .sl 1 L.nr),(12,I ((L.nr:Nat):Int)),(13,I x1)],[.code (bodyAt Tryz.f38 [1,0,0]), .inLoop (bodyAt Tryz.f38 [1,0,0]), .inBlock 0],{}⟩,⟨17,slo 21 [(4, .ptr 5 0),(6, .ptr 6 0),(14, .ptr 6 0),(15,I a1)],[.inRegion (opsAt Tryz.f17 [1,1,1,0]) [2], .code (bodyAt Tryz.f17 [1,1,1,1])],{}⟩],[some (.row false 3 L.nd 1 (fun i=>[I (L.D i)])),some (.row false 3 L.nr 1 (fun i=>[I (L.R i)])),some (.row false 121 L.np 2 (fun i=>[I (L.X i),I (L.Y i)])),some (.row false 3 L.nk 1 (fun i=>[I (L.V i)])),none,some (.box true [I 0,I 0,I 0,I 0,I 0,I 0,I 0,B false,B false,B false,I 0, .val (.slice none 0 0), .val (.slice none 0 0), .val (.slice none 0 0),B false,I 0,I 0, .val (.slice none 0 0),I 0,I 0,I 0,I 0,I 0]),some (.box true [I L.t.a1,I L.t.a2,I L.t.a3,I L.t.a4,I L.t.a5,I L.t.a6,I L.t.a7,B (L.t.a8),B (L.t.a9),B (L.t.a10),I L.t.a11, .sl 0 L.nd, .sl 1 L.nr, .sl 2 L.np,B (L.eo),I L.en,I L.fq, .sl 3 L.nk,I L.op,I x2,I x3,I L.ba,I L.it])]⟩
theorem lGo_w0 {X:Cx} {L:Ln} {a1:Int} {res:SV} (hX:Fi X 17 (lnH L) (res) []) (H:((isDay a1)=false→((.tup [lnL L,I 3]):SV)=res)∧((isDay a1)=true→Ok X (lGo_h0 L a1 0 L.du L.fr))):
  Ok X (entry Tryz.prog 17 [lnL L,I a1] (lnH L)):=by
 obtain⟨L0,K0⟩:=H
 refine hX.go [c_ [] (lnDay a1)] ?_
 rcases bcase (isDay a1)with h0|h0
 ·have k:=K0 h0
  exact hX.h 27 [f_ (nf h0),i_] [.old 0, .old 1, .old 2, .old 3, .old 1004, .old 5, .old 6] k
 ·have HE:=L0 h0
  exact(hX.to HE.symm).e [t_ (nt h0)]
theorem lGo_w1 {X:Cx} {L:Ln} {a1 x1 x2 x3:Int} {res:SV} (hX:Fi X 17 (lnH L) (res) []) (H:(x1<((L.nr:Nat):Int)→((0:Int)≤x1∧x1<((L.nr:Nat):Int))∧((L.R x1.toNat)>x3→((L.R x1.toNat)≤a1→Ir L.op∧Ir L.t.a2∧Ir (x1+1)∧Ok X (lGo_h0 L a1 (x1+1) (adB L x2 x3 (L.R x1.toNat)) (L.R x1.toNat)))∧(¬(L.R x1.toNat)≤a1→Ir (x1+1)∧Ok X (lGo_h0 L a1 (x1+1) x2 x3)))∧(¬(L.R x1.toNat)>x3→Ir (x1+1)∧Ok X (lGo_h0 L a1 (x1+1) x2 x3)))∧(¬x1<((L.nr:Nat):Int)→((.tup [lnL (Ln.w L L.op x2 x3 L.ba L.it),I 0]):SV)=res)):
  Ok X (lGo_h0 L a1 x1 x2 x3):=by
 obtain⟨L0,K0⟩:=H
 by_cases h0:x1<((L.nr:Nat):Int)
 ·obtain⟨h1,L2,K2⟩:=L0 h0
  refine hX.go [t_ (dt h0),q_ h1,q_ (show L.nr=L.nr from rfl),q_ h1] ?_
  by_cases h2:(L.R x1.toNat)>x3
  ·obtain⟨L3,K3⟩:=L2 h2
   refine hX.go [n_ 4 (t_ (dt h2))] ?_
   by_cases h3:(L.R x1.toNat)≤a1
   ·obtain⟨h4,h5,h6,k⟩:=L3 h3
    exact hX.h 37 [t_ (dt h3),i_,d_ 27,c_ [3] (lBet L x3 (L.R x1.toNat) h4 h5),q_ h6,h_ [.w]] [.old 0, .old 1, .old 2, .old 3, .old 1004, .old 5, .old 6] k
   ·obtain⟨h4,k⟩:=K3 h3
    exact hX.h 8 [f_ (df h3),q_ h4] [.old 0, .old 1, .old 2, .old 3, .old 1004, .old 5, .old 6] k
  ·obtain⟨h3,k⟩:=K2 h2
   exact hX.h 13 [n_ 4 (f_ (df h2)),f_ rf,q_ h3] [.old 0, .old 1, .old 2, .old 3, .old 1004, .old 5, .old 6] k
 ·have HE:=K0 h0
  exact(hX.to HE.symm).e [f_ (df h0)]
theorem lGo_l {X:Cx} {L:Ln} {n:Int} (hX:Fi X 17 (lnH L) (.tup [lnL (goL L n),I (goE n)]) []) (hd:isDay n=true) (hr:L.nr≤100000) (hop:Ir L.op) (hra:Ir L.t.a2):
  ∀ (f j:Nat),L.nr=j+f→Ok X (lGo_h0 L n j (ovS L n j).1 (ovS L n j).2):=by
 intro f
 induction f with
 |zero=>
  intro j hj
  have ej:j=L.nr:=by omega
  subst ej
  refine lGo_w1 hX ⟨fun q=>absurd q (by omega),fun _=> ?_⟩
  unfold goL goE
  rw[if_pos hd,if_pos hd,if_pos hd]
 |succ f ih=>
  intro j hj
  have k:Ok X (lGo_h0 L n ((j:Int)+1) (ovS L n (j+1)).1 (ovS L n (j+1)).2):=ih (j+1) (by omega)
  refine lGo_w1 hX ⟨fun q=> ?_,fun q=>absurd q (by omega)⟩
  rw[Int.toNat_natCast]
  refine⟨by omega,fun c1=>⟨fun c2=>⟨hop,hra,irT (by omega), ?_⟩,fun c2=>⟨irT (by omega), ?_⟩⟩,fun c1=>⟨irT (by omega), ?_⟩⟩
  ·rw[show ovS L n (j+1)=(adB L (ovS L n j).1 (ovS L n j).2 (L.R j),L.R j)from ovG_y ⟨c1,c2⟩]at k;exact k
  ·rw[show ovS L n (j+1)=ovS L n j from ovG_n (fun q=>c2 q.2)]at k;exact k
  ·rw[show ovS L n (j+1)=ovS L n j from ovG_n (fun q=>c1 q.1)]at k;exact k
theorem lGo (L:Ln) (n:Int) (hn:1≤L.nr∧L.nr≤100000) (h1:Ir L.op) (h2:Ir L.t.a2):S 17 [lnL L,I n] (lnH L) (.tup [lnL (goL L n),I (goE n)]) []:=by
 refine SCall.st fun X hX=>lGo_w0 hX ⟨fun c=> ?_,fun c=>lGo_l hX c hn.2 h1 h2 L.nr 0 (by omega)⟩
 unfold goL goE
 rw[if_neg (by rw[c];decide),if_neg (by rw[c];decide),if_neg (by rw[c];decide)]
noncomputable def lOwed_h0 (L:Ln) (a1:Int) (x1:Int) (x2:Int) (x3:Int):SC:=
 ⟨[⟨38,slo 33 [(0, .ptr 5 0),(1,I a1),(11, .sl 1 L.nr),(12,I ((L.nr:Nat):Int)),(13,I x1)],[.code (bodyAt Tryz.f38 [1,0,0]), .inLoop (bodyAt Tryz.f38 [1,0,0]), .inBlock 0],{}⟩,⟨35,slo 22 [(0, .ptr 5 0),(1,I a1),(5, .ptr 5 0),(6,I a1)],[.inRegion (opsAt Tryz.f35 [0]) [2], .code (bodyAt Tryz.f35 [1])],{}⟩,⟨19,slo 21 [(6, .ptr 5 0),(13, .ptr 5 0),(14,I a1)],[.inRegion (opsAt Tryz.f19 [1,1,1,0]) [2], .code (bodyAt Tryz.f19 [1,1,1,1])],{}⟩],[some (.row false 3 L.nd 1 (fun i=>[I (L.D i)])),some (.row false 3 L.nr 1 (fun i=>[I (L.R i)])),some (.row false 121 L.np 2 (fun i=>[I (L.X i),I (L.Y i)])),some (.row false 3 L.nk 1 (fun i=>[I (L.V i)])),none,some (.box true [I L.t.a1,I L.t.a2,I L.t.a3,I L.t.a4,I L.t.a5,I L.t.a6,I L.t.a7,B (L.t.a8),B (L.t.a9),B (L.t.a10),I L.t.a11, .sl 0 L.nd, .sl 1 L.nr, .sl 2 L.np,B (L.eo),I L.en,I L.fq, .sl 3 L.nk,I L.op,I x2,I x3,I L.ba,I L.it])]⟩
theorem lOwed_w0 {X:Cx} {L:Ln} {a1:Int} {res:SV} (hX:Fi X 19 (lnH L) (res) []) (H:((isDay a1)=false→((.tup [I 0,I 3]):SV)=res)∧((isDay a1)=true→Ok X (lOwed_h0 L a1 0 L.du L.fr))):
  Ok X (entry Tryz.prog 19 [lnL L,I a1] (lnH L)):=by
 obtain⟨L0,K0⟩:=H
 refine hX.go [c_ [] (lnDay a1)] ?_
 rcases bcase (isDay a1)with h0|h0
 ·have k:=K0 h0
  exact hX.h 32 [f_ (nf h0),i_,i_] [.old 0, .old 1, .old 2, .old 3, .old 1004, .old 5] k
 ·have HE:=L0 h0
  exact(hX.to HE.symm).e [t_ (nt h0)]
theorem lOwed_w1 {X:Cx} {L:Ln} {a1 x1 x2 x3:Int} {res:SV} (hX:Fi X 19 (lnH L) (res) []) (H:(x1<((L.nr:Nat):Int)→((0:Int)≤x1∧x1<((L.nr:Nat):Int))∧((L.R x1.toNat)>x3→((L.R x1.toNat)≤a1→Ir L.op∧Ir L.t.a2∧Ir (x1+1)∧Ok X (lOwed_h0 L a1 (x1+1) (adB L x2 x3 (L.R x1.toNat)) (L.R x1.toNat)))∧(¬(L.R x1.toNat)≤a1→Ir (x1+1)∧Ok X (lOwed_h0 L a1 (x1+1) x2 x3)))∧(¬(L.R x1.toNat)>x3→Ir (x1+1)∧Ok X (lOwed_h0 L a1 (x1+1) x2 x3)))∧(¬x1<((L.nr:Nat):Int)→Ir (((L.nr:Nat):Int)-1)∧((0:Int)≤(((L.nr:Nat):Int)-1)∧(((L.nr:Nat):Int)-1)<((L.nr:Nat):Int))∧((mnI a1 (L.R ((((L.nr:Nat):Int)-1).toNat)))>x3→Ir L.op∧Ir L.t.a2∧((.tup [I (IntKind.wrap .i64 (x2+(inB L x3 (mnI a1 (L.R ((((L.nr:Nat):Int)-1).toNat)))))),I 0]):SV)=res)∧(¬(mnI a1 (L.R ((((L.nr:Nat):Int)-1).toNat)))>x3→((.tup [I x2,I 0]):SV)=res))):
  Ok X (lOwed_h0 L a1 x1 x2 x3):=by
 obtain⟨L0,K0⟩:=H
 by_cases h0:x1<((L.nr:Nat):Int)
 ·obtain⟨h1,L2,K2⟩:=L0 h0
  refine hX.go [t_ (dt h0),q_ h1,q_ (show L.nr=L.nr from rfl),q_ h1] ?_
  by_cases h2:(L.R x1.toNat)>x3
  ·obtain⟨L3,K3⟩:=L2 h2
   refine hX.go [n_ 4 (t_ (dt h2))] ?_
   by_cases h3:(L.R x1.toNat)≤a1
   ·obtain⟨h4,h5,h6,k⟩:=L3 h3
    exact hX.h 37 [t_ (dt h3),i_,d_ 27,c_ [3] (lBet L x3 (L.R x1.toNat) h4 h5),q_ h6,h_ [.w]] [.old 0, .old 1, .old 2, .old 3, .old 1004, .old 5] k
   ·obtain⟨h4,k⟩:=K3 h3
    exact hX.h 8 [f_ (df h3),q_ h4] [.old 0, .old 1, .old 2, .old 3, .old 1004, .old 5] k
  ·obtain⟨h3,k⟩:=K2 h2
   exact hX.h 13 [n_ 4 (f_ (df h2)),f_ rf,q_ h3] [.old 0, .old 1, .old 2, .old 3, .old 1004, .old 5] k
 ·obtain⟨h1,h2,L3,K3⟩:=K0 h0
  refine hX.go [f_ (df h0),q_ h1,q_ h2,q_ (show L.nr=L.nr from rfl),q_ h2,i_,d_ 14] ?_
  by_cases h3:(mnI a1 (L.R ((((L.nr:Nat):Int)-1).toNat)))>x3
  ·obtain⟨h4,h5,HE⟩:=L3 h3
   exact(hX.to HE.symm).e [t_ (dt h3),i_,d_ 27,c_ [3] (lBet L x3 (mnI a1 (L.R ((((L.nr:Nat):Int)-1).toNat))) h4 h5),h_ [.w]]
  ·have HE:=K3 h3
   exact(hX.to HE.symm).e [f_ (df h3)]
theorem lOwed_l {X:Cx} {L:Ln} {n:Int} (hX:Fi X 19 (lnH L) (.tup [I (owV L n),I (goE n)]) []) (hd:isDay n=true) (hn:1≤L.nr) (hr:L.nr≤100000) (hop:Ir L.op) (hra:Ir L.t.a2):
  ∀ (f j:Nat),L.nr=j+f→Ok X (lOwed_h0 L n j (ovS L n j).1 (ovS L n j).2):=by
 intro f
 induction f with
 |zero=>
  intro j hj
  have ej:j=L.nr:=by omega
  subst ej
  refine lOwed_w1 hX ⟨fun q=>absurd q (by omega),fun _=> ?_⟩
  have e1:((L.nr:Int)-1).toNat=L.nr-1:=by omega
  rw[e1]
  have eo:owV L n=(seS L n).1:=if_pos hd
  have eg:goE n=0:=if_pos hd
  rw[eo,eg]
  refine⟨irT (by omega),by omega,fun c=>⟨hop,hra, ?_⟩,fun c=> ?_⟩
  ·rw[show seS L n=(adB L (ovS L n L.nr).1 (ovS L n L.nr).2 (mnI n (L.R (L.nr-1))),mnI n (L.R (L.nr-1)))from if_pos c];rfl
  ·rw[show seS L n=ovS L n L.nr from if_neg c]
 |succ f ih=>
  intro j hj
  have k:Ok X (lOwed_h0 L n ((j:Int)+1) (ovS L n (j+1)).1 (ovS L n (j+1)).2):=ih (j+1) (by omega)
  refine lOwed_w1 hX ⟨fun q=> ?_,fun q=>absurd q (by omega)⟩
  rw[Int.toNat_natCast]
  refine⟨by omega,fun c1=>⟨fun c2=>⟨hop,hra,irT (by omega), ?_⟩,fun c2=>⟨irT (by omega), ?_⟩⟩,fun c1=>⟨irT (by omega), ?_⟩⟩
  ·rw[show ovS L n (j+1)=(adB L (ovS L n j).1 (ovS L n j).2 (L.R j),L.R j)from ovG_y ⟨c1,c2⟩]at k;exact k
  ·rw[show ovS L n (j+1)=ovS L n j from ovG_n (fun q=>c2 q.2)]at k;exact k
  ·rw[show ovS L n (j+1)=ovS L n j from ovG_n (fun q=>c1 q.1)]at k;exact k
theorem lOwed (L:Ln) (n:Int) (hn:1≤L.nr∧L.nr≤100000) (h1:Ir L.op) (h2:Ir L.t.a2):S 19 [lnL L,I n] (lnH L) (.tup [I (owV L n),I (goE n)]) []:=by
 refine SCall.st fun X hX=>lOwed_w0 hX ⟨fun c=> ?_,fun c=>lOwed_l hX c hn.1 hn.2 h1 h2 L.nr 0 (by omega)⟩
 unfold owV goE
 rw[if_neg (by rw[c];decide),if_neg (by rw[c];decide)]
theorem lQuote_w {L:Ln} {a1:Int} {res:SV} (H:(1≤L.nr∧L.nr≤100000)∧Ir L.op∧Ir L.t.a2∧((goE a1)≠0→((.tup [I 0,I (goE a1)]):SV)=res)∧((goE a1)=0→((.tup [I (IntKind.wrap .i64 ((owV L a1)+L.op)),I 0]):SV)=res)):
  S 21 [lnL L,I a1] (lnH L) (res) []:=by
 refine SCall.st fun X hX=> ?_
 obtain⟨h0,h1,h2,L3,K3⟩:=H
 refine hX.go [c_ [0,1,2,3] (lOwed L a1 h0 h1 h2)] ?_
 by_cases h3:(goE a1)=0
 ·have HE:=K3 h3
  exact(hX.to HE.symm).e [f_ (bne_eq_false_iff_eq.2 h3),h_ [.w]]
 ·have HE:=L3 h3
  exact(hX.to HE.symm).e [t_ (bne_iff_ne.2 h3)]
theorem lQuote (L:Ln) (n:Int) (hn:1≤L.nr∧L.nr≤100000) (h1:Ir L.op) (h2:Ir L.t.a2):S 21 [lnL L,I n] (lnH L) (.tup [I (quV L n),I (goE n)]) []:=by
 refine lQuote_w ⟨hn,h1,h2,fun c=> ?_,fun c=> ?_⟩
 ·have: ¬isDay n=true:=fun q=>c (if_pos q)
  unfold quV;rw[if_neg this]
 ·have:isDay n=true:=by
   apply Classical.byContradiction
   intro q
   unfold goE at c;rw[if_neg q]at c;cases c
  unfold quV owV;rw[if_pos this,if_pos this,c]
noncomputable def lPay_h0 (L:Ln) (a1:Int) (a2:Int) (x1:Int) (x2:Int) (x3:Int):SC:=
 ⟨[⟨38,slo 33 [(0, .ptr 8 0),(1,I a1),(11, .sl 1 L.nr),(12,I ((L.nr:Nat):Int)),(13,I x1)],[.code (bodyAt Tryz.f38 [1,0,0]), .inLoop (bodyAt Tryz.f38 [1,0,0]), .inBlock 0],{}⟩,⟨35,slo 22 [(0, .ptr 8 0),(1,I a1),(5, .ptr 8 0),(6,I a1)],[.inRegion (opsAt Tryz.f35 [0]) [2], .code (bodyAt Tryz.f35 [1])],{}⟩,⟨15,slo 83 [(5, .ptr 5 0),(6, .ptr 6 0),(7, .ptr 7 0),(8, .ptr 8 0),(37, .ptr 8 0),(38,I a1)],[.inRegion (opsAt Tryz.f15 [1,1,1,0]) [2], .code (bodyAt Tryz.f15 [1,1,1,1])],{}⟩],[some (.row false 3 L.nd 1 (fun i=>[I (L.D i)])),some (.row false 3 L.nr 1 (fun i=>[I (L.R i)])),some (.row false 121 L.np 2 (fun i=>[I (L.X i),I (L.Y i)])),some (.row false 3 L.nk 1 (fun i=>[I (L.V i)])),none,some (.box true [I a2]),some (.box true [I 0,I 0,I 0,I 0,I 0,I 0,I 0,B false,B false,B false,I 0, .val (.slice none 0 0), .val (.slice none 0 0), .val (.slice none 0 0),B false,I 0,I 0, .val (.slice none 0 0),I 0,I 0,I 0,I 0,I 0]),some (.box true [I 0,I 0,I 0,I 0]),some (.box true [I L.t.a1,I L.t.a2,I L.t.a3,I L.t.a4,I L.t.a5,I L.t.a6,I L.t.a7,B (L.t.a8),B (L.t.a9),B (L.t.a10),I L.t.a11, .sl 0 L.nd, .sl 1 L.nr, .sl 2 L.np,B (L.eo),I L.en,I L.fq, .sl 3 L.nk,I L.op,I x2,I x3,I L.ba,I L.it])]⟩
noncomputable def lPay_h1 (L:Ln) (a2:Int) (x1:Int) (x2:Int):SC:=
 ⟨[⟨15,slo 83 [(5, .ptr 5 0),(6, .ptr 6 0),(7, .ptr 7 0),(8, .ptr 8 0)],[.code (bodyAt Tryz.f15 [1,1,1,1])],{}⟩],[some (.row false 3 L.nd 1 (fun i=>[I (L.D i)])),some (.row false 3 L.nr 1 (fun i=>[I (L.R i)])),some (.row false 121 L.np 2 (fun i=>[I (L.X i),I (L.Y i)])),some (.row false 3 L.nk 1 (fun i=>[I (L.V i)])),none,some (.box true [I a2]),some (.box true [I 0,I 0,I 0,I 0,I 0,I 0,I 0,B false,B false,B false,I 0, .val (.slice none 0 0), .val (.slice none 0 0), .val (.slice none 0 0),B false,I 0,I 0, .val (.slice none 0 0),I 0,I 0,I 0,I 0,I 0]),some (.box true [I 0,I 0,I 0,I 0]),some (.box true [I L.t.a1,I L.t.a2,I L.t.a3,I L.t.a4,I L.t.a5,I L.t.a6,I L.t.a7,B (L.t.a8),B (L.t.a9),B (L.t.a10),I L.t.a11, .sl 0 L.nd, .sl 1 L.nr, .sl 2 L.np,B (L.eo),I L.en,I L.fq, .sl 3 L.nk,I L.op,I x1,I x2,I L.ba,I L.it])]⟩
theorem lPay_w0 {X:Cx} {L:Ln} {a1 a2:Int} {res:SV} (hX:Fi X 15 (lnH L) (res) []) (H:((isDay a1)=false→((.tup [lnL L, .agg [I 3,I 0,I 0,I 0]]):SV)=res)∧((isDay a1)=true→(a1<L.fr→((.tup [lnL L, .agg [I 4,I 0,I 0,I 0]]):SV)=res)∧(¬a1<L.fr→(a2<0→((.tup [lnL L, .agg [I 2,I 0,I 0,I 0]]):SV)=res)∧(¬a2<0→(a2>9000000000000000000→((.tup [lnL L, .agg [I 2,I 0,I 0,I 0]]):SV)=res)∧(¬a2>9000000000000000000→Ok X (lPay_h0 L a1 a2 0 L.du L.fr)))))):
  Ok X (entry Tryz.prog 15 [lnL L,I a1,I a2] (lnH L)):=by
 obtain⟨L0,K0⟩:=H
 refine hX.go [c_ [] (lnDay a1)] ?_
 rcases bcase (isDay a1)with h0|h0
 ·obtain⟨L1,K1⟩:=K0 h0
  refine hX.go [f_ (nf h0)] ?_
  by_cases h1:a1<L.fr
  ·have HE:=L1 h1
   exact(hX.to HE.symm).e [t_ (dt h1)]
  ·obtain⟨L2,K2⟩:=K1 h1
   refine hX.go [f_ (df h1)] ?_
   by_cases h2:a2<0
   ·have HE:=L2 h2
    exact(hX.to HE.symm).e [n_ 3 (t_ (dt h2)),t_ rt]
   ·obtain⟨L3,K3⟩:=K2 h2
    refine hX.go [n_ 3 (f_ (df h2))] ?_
    by_cases h3:a2>9000000000000000000
    ·have HE:=L3 h3
     exact(hX.to HE.symm).e [t_ (dt h3)]
    ·have k:=K3 h3
     exact hX.h 33 [f_ (df h3),i_,i_] [.old 0, .old 1, .old 2, .old 3, .old 1004, .old 5, .old 6, .old 7, .old 8] k
 ·have HE:=L0 h0
  exact(hX.to HE.symm).e [t_ (nt h0)]
theorem lPay_w1 {X:Cx} {L:Ln} {a1 a2 x1 x2 x3:Int} {res:SV} (hX:Fi X 15 (lnH L) (res) []) (H:(x1<((L.nr:Nat):Int)→((0:Int)≤x1∧x1<((L.nr:Nat):Int))∧((L.R x1.toNat)>x3→((L.R x1.toNat)≤a1→Ir L.op∧Ir L.t.a2∧Ir (x1+1)∧Ok X (lPay_h0 L a1 a2 (x1+1) (adB L x2 x3 (L.R x1.toNat)) (L.R x1.toNat)))∧(¬(L.R x1.toNat)≤a1→Ir (x1+1)∧Ok X (lPay_h0 L a1 a2 (x1+1) x2 x3)))∧(¬(L.R x1.toNat)>x3→Ir (x1+1)∧Ok X (lPay_h0 L a1 a2 (x1+1) x2 x3)))∧(¬x1<((L.nr:Nat):Int)→Ir (((L.nr:Nat):Int)-1)∧((0:Int)≤(((L.nr:Nat):Int)-1)∧(((L.nr:Nat):Int)-1)<((L.nr:Nat):Int))∧((mnI a1 (L.R ((((L.nr:Nat):Int)-1).toNat)))>x3→Ir L.op∧Ir L.t.a2∧Ok X (lPay_h1 L a2 (IntKind.wrap .i64 (x2+(inB L x3 (mnI a1 (L.R ((((L.nr:Nat):Int)-1).toNat)))))) (mnI a1 (L.R ((((L.nr:Nat):Int)-1).toNat)))))∧(¬(mnI a1 (L.R ((((L.nr:Nat):Int)-1).toNat)))>x3→Ok X (lPay_h1 L a2 x2 x3)))):
  Ok X (lPay_h0 L a1 a2 x1 x2 x3):=by
 obtain⟨L0,K0⟩:=H
 by_cases h0:x1<((L.nr:Nat):Int)
 ·obtain⟨h1,L2,K2⟩:=L0 h0
  refine hX.go [t_ (dt h0),q_ h1,q_ (show L.nr=L.nr from rfl),q_ h1] ?_
  by_cases h2:(L.R x1.toNat)>x3
  ·obtain⟨L3,K3⟩:=L2 h2
   refine hX.go [n_ 4 (t_ (dt h2))] ?_
   by_cases h3:(L.R x1.toNat)≤a1
   ·obtain⟨h4,h5,h6,k⟩:=L3 h3
    exact hX.h 37 [t_ (dt h3),i_,d_ 27,c_ [3] (lBet L x3 (L.R x1.toNat) h4 h5),q_ h6,h_ [.w]] [.old 0, .old 1, .old 2, .old 3, .old 1004, .old 5, .old 6, .old 7, .old 8] k
   ·obtain⟨h4,k⟩:=K3 h3
    exact hX.h 8 [f_ (df h3),q_ h4] [.old 0, .old 1, .old 2, .old 3, .old 1004, .old 5, .old 6, .old 7, .old 8] k
  ·obtain⟨h3,k⟩:=K2 h2
   exact hX.h 13 [n_ 4 (f_ (df h2)),f_ rf,q_ h3] [.old 0, .old 1, .old 2, .old 3, .old 1004, .old 5, .old 6, .old 7, .old 8] k
 ·obtain⟨h1,h2,L3,K3⟩:=K0 h0
  refine hX.go [f_ (df h0),q_ h1,q_ h2,q_ (show L.nr=L.nr from rfl),q_ h2,i_,d_ 14] ?_
  by_cases h3:(mnI a1 (L.R ((((L.nr:Nat):Int)-1).toNat)))>x3
  ·obtain⟨h4,h5,k⟩:=L3 h3
   exact hX.h 33 [t_ (dt h3),i_,d_ 27,c_ [3] (lBet L x3 (mnI a1 (L.R ((((L.nr:Nat):Int)-1).toNat))) h4 h5),h_ [.w]] [.old 0, .old 1, .old 2, .old 3, .old 1004, .old 5, .old 6, .old 7, .old 8] k
  ·have k:=K3 h3
   exact hX.h 4 [f_ (df h3)] [.old 0, .old 1, .old 2, .old 3, .old 1004, .old 5, .old 6, .old 7, .old 8] k
theorem lPay_w2 {X:Cx} {L:Ln} {a2 x1 x2:Int} {res:SV} (hX:Fi X 15 (lnH L) (res) []) (H:Ir (a2-(mnI a2 x1))∧Ir (x1-(mnI a2 x1))∧Ir ((a2-(mnI a2 x1))-(mnI (a2-(mnI a2 x1)) L.op))∧Ir (L.op-(mnI (a2-(mnI a2 x1)) L.op))∧Ir (L.it+(mnI a2 x1))∧Ir (L.ba+(mnI (a2-(mnI a2 x1)) L.op))∧((.tup [lnL (Ln.w L (L.op-(mnI (a2-(mnI a2 x1)) L.op)) (x1-(mnI a2 x1)) x2 (L.ba+(mnI (a2-(mnI a2 x1)) L.op)) (L.it+(mnI a2 x1))), .agg [I 0,I (mnI a2 x1),I (mnI (a2-(mnI a2 x1)) L.op),I ((a2-(mnI a2 x1))-(mnI (a2-(mnI a2 x1)) L.op))]]):SV)=res):
  Ok X (lPay_h1 L a2 x1 x2):=by
 obtain⟨h0,h1,h2,h3,h4,h5,HE⟩:=H
 exact(hX.to HE.symm).e [q_ h0,q_ h1,n_ 3 (q_ (show(.ptr 8 19:SV)= .ptr 8 19 from rfl)),q_ (re (I x1)),q_ (show(I (mnI a2 x1):SV)=I (mnI a2 x1)from rfl),q_ (show(I (x1-(mnI a2 x1)):SV)=I (x1-(mnI a2 x1))from rfl),q_ h1,n_ 3 (q_ (show(.ptr 8 19:SV)= .ptr 8 19 from rfl)),q_ (re (I x1)),q_ (show(I (mnI a2 x1):SV)=I (mnI a2 x1)from rfl),q_ (show(I (x1-(mnI a2 x1)):SV)=I (x1-(mnI a2 x1))from rfl),q_ h1,q_ h2,q_ h3,n_ 3 (q_ (show(.ptr 8 18:SV)= .ptr 8 18 from rfl)),q_ (show(I L.op:SV)=I L.op from rfl),q_ (show(I (mnI (a2-(mnI a2 x1)) L.op):SV)=I (mnI (a2-(mnI a2 x1)) L.op)from rfl),q_ (show(I (L.op-(mnI (a2-(mnI a2 x1)) L.op)):SV)=I (L.op-(mnI (a2-(mnI a2 x1)) L.op))from rfl),q_ h3,n_ 3 (q_ (show(.ptr 8 18:SV)= .ptr 8 18 from rfl)),q_ (show(I L.op:SV)=I L.op from rfl),q_ (show(I (mnI (a2-(mnI a2 x1)) L.op):SV)=I (mnI (a2-(mnI a2 x1)) L.op)from rfl),q_ (show(I (L.op-(mnI (a2-(mnI a2 x1)) L.op)):SV)=I (L.op-(mnI (a2-(mnI a2 x1)) L.op))from rfl),q_ h3,q_ h4,q_ h5,q_ (show(.ptr 8 0:SV)= .ptr 8 0 from rfl),q_ (show(I (mnI (a2-(mnI a2 x1)) L.op):SV)=I (mnI (a2-(mnI a2 x1)) L.op)from rfl),q_ (show(I (L.ba+(mnI (a2-(mnI a2 x1)) L.op)):SV)=I (L.ba+(mnI (a2-(mnI a2 x1)) L.op))from rfl),q_ h5,q_ (show(.ptr 8 0:SV)= .ptr 8 0 from rfl),q_ (show(I (mnI (a2-(mnI a2 x1)) L.op):SV)=I (mnI (a2-(mnI a2 x1)) L.op)from rfl),q_ (show(I (L.ba+(mnI (a2-(mnI a2 x1)) L.op)):SV)=I (L.ba+(mnI (a2-(mnI a2 x1)) L.op))from rfl),q_ h5,q_ (show(I (mnI a2 x1):SV)=I (mnI a2 x1)from rfl),q_ (show(I (mnI (a2-(mnI a2 x1)) L.op):SV)=I (mnI (a2-(mnI a2 x1)) L.op)from rfl),q_ (show(I ((a2-(mnI a2 x1))-(mnI (a2-(mnI a2 x1)) L.op)):SV)=I ((a2-(mnI a2 x1))-(mnI (a2-(mnI a2 x1)) L.op))from rfl),q_ (show(.agg [I 0,I (mnI a2 x1),I (mnI (a2-(mnI a2 x1)) L.op),I ((a2-(mnI a2 x1))-(mnI (a2-(mnI a2 x1)) L.op))]:SV)= .agg [I 0,I (mnI a2 x1),I (mnI (a2-(mnI a2 x1)) L.op),I ((a2-(mnI a2 x1))-(mnI (a2-(mnI a2 x1)) L.op))]from rfl),q_ (show(I (mnI a2 x1):SV)=I (mnI a2 x1)from rfl),q_ (show(I (mnI (a2-(mnI a2 x1)) L.op):SV)=I (mnI (a2-(mnI a2 x1)) L.op)from rfl),q_ (show(I ((a2-(mnI a2 x1))-(mnI (a2-(mnI a2 x1)) L.op)):SV)=I ((a2-(mnI a2 x1))-(mnI (a2-(mnI a2 x1)) L.op))from rfl),q_ (show(.agg [I 0,I (mnI a2 x1),I (mnI (a2-(mnI a2 x1)) L.op),I ((a2-(mnI a2 x1))-(mnI (a2-(mnI a2 x1)) L.op))]:SV)= .agg [I 0,I (mnI a2 x1),I (mnI (a2-(mnI a2 x1)) L.op),I ((a2-(mnI a2 x1))-(mnI (a2-(mnI a2 x1)) L.op))]from rfl),i_,d_ 4,h_ [.draw 9 [0,4,5,6,7,8] 1],i_,d_ 4,h_ [.draw 9 [0,4,5,6,7,8] 1, .draw 19 [1,14,15] 1, .draw 8 [4,5,6,7] 1]]
theorem lPay_l {X:Cx} {L:Ln} {n m:Int} (hX:Fi X 15 (lnH L) (.tup [lnL (pyL L n m), .agg [I (pyE L n m),I (pyA L n m),I (pyB L n m),I (pyC L n m)]]) []) (he:pyE L n m=0) (hn:1≤L.nr) (hp:PyOk L n m) (hr:L.nr≤100000) (hop:Ir L.op) (hra:Ir L.t.a2):
  ∀ (f j:Nat),L.nr=j+f→Ok X (lPay_h0 L n m j (ovS L n j).1 (ovS L n j).2):=by
 intro f
 induction f with
 |zero=>
  intro j hj
  have ej:j=L.nr:=by omega
  subst ej
  refine lPay_w1 hX ⟨fun q=>absurd q (by omega),fun _=> ?_⟩
  have e1:((L.nr:Int)-1).toNat=L.nr-1:=by omega
  rw[e1]
  have fin:Ok X (lPay_h1 L m (seS L n).1 (seS L n).2):=by
   obtain⟨q1,q2,q3,q4,q5,q6⟩:=hp he
   refine lPay_w2 hX ⟨q1,q2,q3,q4,q5,q6, ?_⟩
   unfold pyL pyA pyB pyC
   rw[if_pos he,if_pos he,if_pos he,if_pos he,if_pos he,if_pos he,if_pos he,if_pos he,he]
  refine⟨irT (by omega),by omega,fun c=>⟨hop,hra, ?_⟩,fun c=> ?_⟩
  ·rw[show seS L n=(adB L (ovS L n L.nr).1 (ovS L n L.nr).2 (mnI n (L.R (L.nr-1))),mnI n (L.R (L.nr-1)))from if_pos c]at fin;exact fin
  ·rw[show seS L n=ovS L n L.nr from if_neg c]at fin;exact fin
 |succ f ih=>
  intro j hj
  have k:Ok X (lPay_h0 L n m ((j:Int)+1) (ovS L n (j+1)).1 (ovS L n (j+1)).2):=ih (j+1) (by omega)
  refine lPay_w1 hX ⟨fun q=> ?_,fun q=>absurd q (by omega)⟩
  rw[Int.toNat_natCast]
  refine⟨by omega,fun c1=>⟨fun c2=>⟨hop,hra,irT (by omega), ?_⟩,fun c2=>⟨irT (by omega), ?_⟩⟩,fun c1=>⟨irT (by omega), ?_⟩⟩
  ·rw[show ovS L n (j+1)=(adB L (ovS L n j).1 (ovS L n j).2 (L.R j),L.R j)from ovG_y ⟨c1,c2⟩]at k;exact k
  ·rw[show ovS L n (j+1)=ovS L n j from ovG_n (fun q=>c2 q.2)]at k;exact k
  ·rw[show ovS L n (j+1)=ovS L n j from ovG_n (fun q=>c1 q.1)]at k;exact k
theorem py_no {L:Ln} {n m:Int} (h:pyE L n m≠0):pyL L n m=L∧pyA L n m=0∧pyB L n m=0∧pyC L n m=0:=by
 unfold pyL pyA pyB pyC
 rw[if_neg h,if_neg h,if_neg h,if_neg h,if_neg h,if_neg h,if_neg h,if_neg h]
 exact⟨rfl,rfl,rfl,rfl⟩
theorem lPay (L:Ln) (n m:Int) (hn:1≤L.nr∧L.nr≤100000) (h1:Ir L.op) (h2:Ir L.t.a2) (hp:PyOk L n m):S 15 [lnL L,I n,I m] (lnH L) (.tup [lnL (pyL L n m), .agg [I (pyE L n m),I (pyA L n m),I (pyB L n m),I (pyC L n m)]]) []:=by
 have no: ∀ k:Int,pyE L n m=k→k≠0→((.tup [lnL L, .agg [I k,I 0,I 0,I 0]]):SV)= .tup [lnL (pyL L n m), .agg [I (pyE L n m),I (pyA L n m),I (pyB L n m),I (pyC L n m)]]:=fun k e hk=>by
  obtain⟨q1,q2,q3,q4⟩:=py_no (L:=L) (n:=n) (m:=m) (by rw[e];exact hk)
  rw[q1,q2,q3,q4,e]
 refine SCall.st fun X hX=>lPay_w0 hX ⟨fun c=>no 3 (if_pos c) (by decide),fun c=>⟨fun c1=>no 4 ?_ (by decide),fun c1=>⟨fun c2=>no 2 ?_ (by decide),fun c2=>⟨fun c3=>no 2 ?_ (by decide),fun c3=> ?_⟩⟩⟩⟩
 ·unfold pyE;rw[if_neg (by rw[c];decide),if_pos c1]
 ·unfold pyE;rw[if_neg (by rw[c];decide),if_neg c1,if_pos (.inl c2)]
 ·unfold pyE;rw[if_neg (by rw[c];decide),if_neg c1,if_pos (.inr c3)]
 ·exact lPay_l hX (by unfold pyE;rw[if_neg (by rw[c];decide),if_neg c1,if_neg (by omega)]) hn.1 hp hn.2 h1 h2 L.nr 0 (by omega)
end Go.Proofs.YtelidogcomffkaaGreatDoor
