/-
LoanSums.
-/
import Derived.Test.YtelidogcomffkaaGreatDoorLSv
import Derived.Test.YtelidogcomffkaaGreatDoorProg
import Derived.KernelRfl
set_option linter.unusedSectionVars false
set_option linter.unusedSimpArgs false
set_option linter.unusedVariables false
set_option maxRecDepth 100000
namespace Go.Proofs.YtelidogcomffkaaGreatDoor
open Go Go.Sx
variable [EnvT]
noncomputable def lSums22_h0 (t:Tms) (C:Cl) (na:Nat) (pb:Nat→Bool) (dy:Nat→Int) (mo:Nat→Int) (x1:Int) (x2:Int) (x3:Int) (x4:Int) (x5:Int) (x6:Int) (x7:Int) (x8:Int):SC:=
 ⟨[⟨5,slo 204 [(2, .sl 2 na),(3, .ptr 3 0),(7,B true),(8, .ptr 13 0),(10,I x1),(11,I x2),(12,I x3)],[.code (bodyAt Tryz.f5 [1,1,1,1,1,1,1,0,1,0,0]), .inLoop (bodyAt Tryz.f5 [1,1,1,1,1,1,1,0,1,0,0]), .inBlock 0, .code (bodyAt Tryz.f5 [1,1,1,1,1,1,1,1])],{}⟩],[some (.row false 109 C.nr 8 (fun i=>[I ((C.R i).kind),I ((C.R i).mon),I ((C.R i).day),I ((C.R i).k),I ((C.R i).off),I ((C.R i).sh),I ((C.R i).fr),I ((C.R i).to)])),some (.row false 3 C.nd 1 (fun i=>[I (C.D i)])),some (.row false 48 na 3 (fun i=>[B (pb i),I (dy i),I (mo i)])),some (.box true [I t.a1,I t.a2,I t.a3,I t.a4,I t.a5,I t.a6,I t.a7,B (t.a8),B (t.a9),B (t.a10),I t.a11]),none,none,none,none,some (.row true 3 (plN t C) 1 (fun i=>[I (tD t i)])),some (.row true 3 (plN t C) 1 (fun i=>[I ((tR t C i).1)])),some (.row true 121 (plN t C-1) 2 (fun i=>[I ((tP t C i).1),I ((tP t C i).2.1)])),some (.row true 3 (plK t C) 1 (fun i=>[I ((tQ t C i).1)])),none,some (.box true [I t.a1,I t.a2,I t.a3,I t.a4,I t.a5,I t.a6,I t.a7,B (t.a8),B (t.a9),B (t.a10),I t.a11, .sl 8 (plN t C), .sl 9 (plN t C), .sl 10 (plN t C-1),B (plB t C),I (plE t C),I (plF t C), .sl 11 (plK t C),I x4,I x5,I x6,I x7,I x8])]⟩
theorem lSums22_w0 {X:Cx} {t:Tms} {C:Cl} {na:Nat} {pb:Nat→Bool} {dy mo:Nat→Int} (hX:Fi X 5 (acH C na pb dy mo) (B true) []) (H:((chk t.a1 t.a2 t.a3 t.a4 t.a5 t.a6 t.a7 t.a11)=0→((shP t C 36)=true→(¬((na:Nat):Int)>12→tSh t∧CalOk C∧((schE t C)=0→((0:Int)≤0∧0<(((plN t C):Nat):Int))∧Ok X (lSums22_h0 t C na pb dy mo t.a5 0 0 t.a1 0 ((tR t C 0).1) 0 0)))))):
  Ok X (entry Tryz.prog 5 [.agg [I t.a1,I t.a2,I t.a3,I t.a4,I t.a5,I t.a6,I t.a7,B (t.a8),B (t.a9),B (t.a10),I t.a11], .agg [B (C.off 0),B (C.off 1),B (C.off 2),B (C.off 3),B (C.off 4),B (C.off 5),B (C.off 6), .sl 0 C.nr, .sl 1 C.nd], .sl 2 na] (acH C na pb dy mo)):=by
 refine hX.go [c_ [] shown22,c_ [] (rCheck t.a1 t.a2 t.a3 t.a4 t.a5 t.a6 t.a7 (t.a8) (t.a9) (t.a10) t.a11)] ?_
 by_cases h0:(chk t.a1 t.a2 t.a3 t.a4 t.a5 t.a6 t.a7 t.a11)=0
 ·have K1:=H h0
  refine hX.go [n_ 3 (f_ (bne_eq_false_iff_eq.2 h0)),c_ [0,1] (show S 11 [.agg [I t.a1,I t.a2,I t.a3,I t.a4,I t.a5,I t.a6,I t.a7,B (t.a8),B (t.a9),B (t.a10),I t.a11], .agg [B (C.off 0),B (C.off 1),B (C.off 2),B (C.off 3),B (C.off 4),B (C.off 5),B (C.off 6), .sl 0 C.nr, .sl 1 C.nd],I 36] (calH C) (B (shP t C 36)) []from rShort17 t (by decide)),f_ (bne_eq_false_iff_eq.2 h0),f_ (bne_eq_false_iff_eq.2 h0)] ?_
  rcases bcase (shP t C 36)with h1|h1
  ·have K2:=K1 h1
   refine hX.go [n_ 4 (f_ (nf h1))] ?_
   by_cases h2:((na:Nat):Int)>12
   ·exact hX.e [t_ (dt h2)]
   ·obtain⟨h3,h4,K5⟩:=K2 h2
    refine hX.go [f_ (df h2),i_,c_ [0,1] (show S 31 [.agg [I t.a1,I t.a2,I t.a3,I t.a4,I t.a5,I t.a6,I t.a7,B (t.a8),B (t.a9),B (t.a10),I t.a11], .agg [B (C.off 0),B (C.off 1),B (C.off 2),B (C.off 3),B (C.off 4),B (C.off 5),B (C.off 6), .sl 0 C.nr, .sl 1 C.nd]] (calH C) (.tup [.agg [.sl 2 (plN t C), .sl 3 (plN t C), .sl 4 (plN t C-1),B (plB t C),I (plE t C),I (plF t C), .sl 5 (plK t C)],I (schE t C)]) [some (.row true 3 (plN t C) 1 (fun i=>[I (tD t i)])),some (.row true 3 (plN t C) 1 (fun i=>[I ((tR t C i).1)])),some (.row true 121 (plN t C-1) 2 (fun i=>[I ((tP t C i).1),I ((tP t C i).2.1)])),some (.row true 3 (plK t C) 1 (fun i=>[I ((tQ t C i).1)]))]from sOf t h3 h4)] ?_
    by_cases h5:(schE t C)=0
    ·obtain⟨h6,k⟩:=K5 h5
     exact hX.h 41 [f_ (bne_eq_false_iff_eq.2 h5),q_ h6,q_ (show(plN t C)=(plN t C)from rfl),q_ h6,d_ 8,f_ rf] [.old 0, .old 1, .old 2, .old 3, .old 1004, .old 1005, .old 1006, .old 1007, .old 8, .old 9, .old 10, .old 11, .old 1012, .old 13] k
    ·exact hX.e [t_ (bne_iff_ne.2 h5),t_ (bne_iff_ne.2 h5)]
  ·exact hX.e [n_ 4 (t_ (nt h1)),t_ rt]
 ·exact hX.e [n_ 5 (t_ (bne_iff_ne.2 h0)),n_ 5 (t_ rt)]
theorem lSums22_w1 {X:Cx} {t:Tms} {C:Cl} {na:Nat} {pb:Nat→Bool} {dy mo:Nat→Int} {x1 x2 x3 x4 x5 x6 x7 x8:Int} (hX:Fi X 5 (acH C na pb dy mo) (B true) []) (H:(x3<((na:Nat):Int)→((0:Int)≤x3∧x3<((na:Nat):Int))∧(1≤(sL t C x4 x5 x6 x7 x8).nr∧(sL t C x4 x5 x6 x7 x8).nr≤100000)∧Ir (sL t C x4 x5 x6 x7 x8).op∧Ir (sL t C x4 x5 x6 x7 x8).t.a2∧PyOk (sL t C x4 x5 x6 x7 x8) (sD x1 dy x3) (mo x3.toNat)∧((pyE (sL t C x4 x5 x6 x7 x8) (sD x1 dy x3) (mo x3.toNat))≠0→LnEq (Ln.w (oL t C) ((pyL (sL t C x4 x5 x6 x7 x8) (sD x1 dy x3) (mo x3.toNat)).op) ((pyL (sL t C x4 x5 x6 x7 x8) (sD x1 dy x3) (mo x3.toNat)).du) ((pyL (sL t C x4 x5 x6 x7 x8) (sD x1 dy x3) (mo x3.toNat)).fr) ((pyL (sL t C x4 x5 x6 x7 x8) (sD x1 dy x3) (mo x3.toNat)).ba) ((pyL (sL t C x4 x5 x6 x7 x8) (sD x1 dy x3) (mo x3.toNat)).it)) (sL t C x4 x5 x6 x7 x8)∧(pyA (sL t C x4 x5 x6 x7 x8) (sD x1 dy x3) (mo x3.toNat))=0∧(pyB (sL t C x4 x5 x6 x7 x8) (sD x1 dy x3) (mo x3.toNat))=0∧(pyC (sL t C x4 x5 x6 x7 x8) (sD x1 dy x3) (mo x3.toNat))=0∧Ok X (lSums22_h0 t C na pb dy mo (sD x1 dy x3) x2 (IntKind.wrap .i64 (x3+1)) x4 x5 x6 x7 x8))∧((pyE (sL t C x4 x5 x6 x7 x8) (sD x1 dy x3) (mo x3.toNat))=0→(goE (sD x1 dy x3))=0∧ ¬(pyA (sL t C x4 x5 x6 x7 x8) (sD x1 dy x3) (mo x3.toNat))<0∧ ¬(pyB (sL t C x4 x5 x6 x7 x8) (sD x1 dy x3) (mo x3.toNat))<0∧ ¬(pyC (sL t C x4 x5 x6 x7 x8) (sD x1 dy x3) (mo x3.toNat))<0∧(IntKind.wrap .i64 ((IntKind.wrap .i64 ((pyA (sL t C x4 x5 x6 x7 x8) (sD x1 dy x3) (mo x3.toNat))+(pyB (sL t C x4 x5 x6 x7 x8) (sD x1 dy x3) (mo x3.toNat))))+(pyC (sL t C x4 x5 x6 x7 x8) (sD x1 dy x3) (mo x3.toNat))))=(mo x3.toNat)∧ ¬(pyA (sL t C x4 x5 x6 x7 x8) (sD x1 dy x3) (mo x3.toNat))>(owV (sL t C x4 x5 x6 x7 x8) (sD x1 dy x3))∧ ¬(pyB (sL t C x4 x5 x6 x7 x8) (sD x1 dy x3) (mo x3.toNat))>x4∧((pyB (sL t C x4 x5 x6 x7 x8) (sD x1 dy x3) (mo x3.toNat))>0→ ¬(pyA (sL t C x4 x5 x6 x7 x8) (sD x1 dy x3) (mo x3.toNat))<(owV (sL t C x4 x5 x6 x7 x8) (sD x1 dy x3))∧((pyC (sL t C x4 x5 x6 x7 x8) (sD x1 dy x3) (mo x3.toNat))>0→ ¬((pyL (sL t C x4 x5 x6 x7 x8) (sD x1 dy x3) (mo x3.toNat)).op)>0∧(IntKind.wrap .i64 (((pyL (sL t C x4 x5 x6 x7 x8) (sD x1 dy x3) (mo x3.toNat)).op)+((pyL (sL t C x4 x5 x6 x7 x8) (sD x1 dy x3) (mo x3.toNat)).ba)))=t.a1∧ ¬((pyL (sL t C x4 x5 x6 x7 x8) (sD x1 dy x3) (mo x3.toNat)).op)<0∧ ¬((pyL (sL t C x4 x5 x6 x7 x8) (sD x1 dy x3) (mo x3.toNat)).ba)<x7∧((pyL (sL t C x4 x5 x6 x7 x8) (sD x1 dy x3) (mo x3.toNat)).it)=(IntKind.wrap .i64 (x2+(pyA (sL t C x4 x5 x6 x7 x8) (sD x1 dy x3) (mo x3.toNat))))∧((pyL (sL t C x4 x5 x6 x7 x8) (sD x1 dy x3) (mo x3.toNat)).du)=(IntKind.wrap .i64 ((owV (sL t C x4 x5 x6 x7 x8) (sD x1 dy x3))-(pyA (sL t C x4 x5 x6 x7 x8) (sD x1 dy x3) (mo x3.toNat))))∧Ok X (lSums22_h0 t C na pb dy mo (sD x1 dy x3) (IntKind.wrap .i64 (x2+(pyA (sL t C x4 x5 x6 x7 x8) (sD x1 dy x3) (mo x3.toNat)))) (IntKind.wrap .i64 (x3+1)) ((pyL (sL t C x4 x5 x6 x7 x8) (sD x1 dy x3) (mo x3.toNat)).op) ((pyL (sL t C x4 x5 x6 x7 x8) (sD x1 dy x3) (mo x3.toNat)).du) ((pyL (sL t C x4 x5 x6 x7 x8) (sD x1 dy x3) (mo x3.toNat)).fr) ((pyL (sL t C x4 x5 x6 x7 x8) (sD x1 dy x3) (mo x3.toNat)).ba) ((pyL (sL t C x4 x5 x6 x7 x8) (sD x1 dy x3) (mo x3.toNat)).it)))∧(¬(pyC (sL t C x4 x5 x6 x7 x8) (sD x1 dy x3) (mo x3.toNat))>0→(IntKind.wrap .i64 (((pyL (sL t C x4 x5 x6 x7 x8) (sD x1 dy x3) (mo x3.toNat)).op)+((pyL (sL t C x4 x5 x6 x7 x8) (sD x1 dy x3) (mo x3.toNat)).ba)))=t.a1∧ ¬((pyL (sL t C x4 x5 x6 x7 x8) (sD x1 dy x3) (mo x3.toNat)).op)<0∧ ¬((pyL (sL t C x4 x5 x6 x7 x8) (sD x1 dy x3) (mo x3.toNat)).ba)<x7∧((pyL (sL t C x4 x5 x6 x7 x8) (sD x1 dy x3) (mo x3.toNat)).it)=(IntKind.wrap .i64 (x2+(pyA (sL t C x4 x5 x6 x7 x8) (sD x1 dy x3) (mo x3.toNat))))∧((pyL (sL t C x4 x5 x6 x7 x8) (sD x1 dy x3) (mo x3.toNat)).du)=(IntKind.wrap .i64 ((owV (sL t C x4 x5 x6 x7 x8) (sD x1 dy x3))-(pyA (sL t C x4 x5 x6 x7 x8) (sD x1 dy x3) (mo x3.toNat))))∧Ok X (lSums22_h0 t C na pb dy mo (sD x1 dy x3) (IntKind.wrap .i64 (x2+(pyA (sL t C x4 x5 x6 x7 x8) (sD x1 dy x3) (mo x3.toNat)))) (IntKind.wrap .i64 (x3+1)) ((pyL (sL t C x4 x5 x6 x7 x8) (sD x1 dy x3) (mo x3.toNat)).op) ((pyL (sL t C x4 x5 x6 x7 x8) (sD x1 dy x3) (mo x3.toNat)).du) ((pyL (sL t C x4 x5 x6 x7 x8) (sD x1 dy x3) (mo x3.toNat)).fr) ((pyL (sL t C x4 x5 x6 x7 x8) (sD x1 dy x3) (mo x3.toNat)).ba) ((pyL (sL t C x4 x5 x6 x7 x8) (sD x1 dy x3) (mo x3.toNat)).it))))∧(¬(pyB (sL t C x4 x5 x6 x7 x8) (sD x1 dy x3) (mo x3.toNat))>0→((pyC (sL t C x4 x5 x6 x7 x8) (sD x1 dy x3) (mo x3.toNat))>0→ ¬((pyL (sL t C x4 x5 x6 x7 x8) (sD x1 dy x3) (mo x3.toNat)).op)>0∧(IntKind.wrap .i64 (((pyL (sL t C x4 x5 x6 x7 x8) (sD x1 dy x3) (mo x3.toNat)).op)+((pyL (sL t C x4 x5 x6 x7 x8) (sD x1 dy x3) (mo x3.toNat)).ba)))=t.a1∧ ¬((pyL (sL t C x4 x5 x6 x7 x8) (sD x1 dy x3) (mo x3.toNat)).op)<0∧ ¬((pyL (sL t C x4 x5 x6 x7 x8) (sD x1 dy x3) (mo x3.toNat)).ba)<x7∧((pyL (sL t C x4 x5 x6 x7 x8) (sD x1 dy x3) (mo x3.toNat)).it)=(IntKind.wrap .i64 (x2+(pyA (sL t C x4 x5 x6 x7 x8) (sD x1 dy x3) (mo x3.toNat))))∧((pyL (sL t C x4 x5 x6 x7 x8) (sD x1 dy x3) (mo x3.toNat)).du)=(IntKind.wrap .i64 ((owV (sL t C x4 x5 x6 x7 x8) (sD x1 dy x3))-(pyA (sL t C x4 x5 x6 x7 x8) (sD x1 dy x3) (mo x3.toNat))))∧Ok X (lSums22_h0 t C na pb dy mo (sD x1 dy x3) (IntKind.wrap .i64 (x2+(pyA (sL t C x4 x5 x6 x7 x8) (sD x1 dy x3) (mo x3.toNat)))) (IntKind.wrap .i64 (x3+1)) ((pyL (sL t C x4 x5 x6 x7 x8) (sD x1 dy x3) (mo x3.toNat)).op) ((pyL (sL t C x4 x5 x6 x7 x8) (sD x1 dy x3) (mo x3.toNat)).du) ((pyL (sL t C x4 x5 x6 x7 x8) (sD x1 dy x3) (mo x3.toNat)).fr) ((pyL (sL t C x4 x5 x6 x7 x8) (sD x1 dy x3) (mo x3.toNat)).ba) ((pyL (sL t C x4 x5 x6 x7 x8) (sD x1 dy x3) (mo x3.toNat)).it)))∧(¬(pyC (sL t C x4 x5 x6 x7 x8) (sD x1 dy x3) (mo x3.toNat))>0→(IntKind.wrap .i64 (((pyL (sL t C x4 x5 x6 x7 x8) (sD x1 dy x3) (mo x3.toNat)).op)+((pyL (sL t C x4 x5 x6 x7 x8) (sD x1 dy x3) (mo x3.toNat)).ba)))=t.a1∧ ¬((pyL (sL t C x4 x5 x6 x7 x8) (sD x1 dy x3) (mo x3.toNat)).op)<0∧ ¬((pyL (sL t C x4 x5 x6 x7 x8) (sD x1 dy x3) (mo x3.toNat)).ba)<x7∧((pyL (sL t C x4 x5 x6 x7 x8) (sD x1 dy x3) (mo x3.toNat)).it)=(IntKind.wrap .i64 (x2+(pyA (sL t C x4 x5 x6 x7 x8) (sD x1 dy x3) (mo x3.toNat))))∧((pyL (sL t C x4 x5 x6 x7 x8) (sD x1 dy x3) (mo x3.toNat)).du)=(IntKind.wrap .i64 ((owV (sL t C x4 x5 x6 x7 x8) (sD x1 dy x3))-(pyA (sL t C x4 x5 x6 x7 x8) (sD x1 dy x3) (mo x3.toNat))))∧Ok X (lSums22_h0 t C na pb dy mo (sD x1 dy x3) (IntKind.wrap .i64 (x2+(pyA (sL t C x4 x5 x6 x7 x8) (sD x1 dy x3) (mo x3.toNat)))) (IntKind.wrap .i64 (x3+1)) ((pyL (sL t C x4 x5 x6 x7 x8) (sD x1 dy x3) (mo x3.toNat)).op) ((pyL (sL t C x4 x5 x6 x7 x8) (sD x1 dy x3) (mo x3.toNat)).du) ((pyL (sL t C x4 x5 x6 x7 x8) (sD x1 dy x3) (mo x3.toNat)).fr) ((pyL (sL t C x4 x5 x6 x7 x8) (sD x1 dy x3) (mo x3.toNat)).ba) ((pyL (sL t C x4 x5 x6 x7 x8) (sD x1 dy x3) (mo x3.toNat)).it))))))):
  Ok X (lSums22_h0 t C na pb dy mo x1 x2 x3 x4 x5 x6 x7 x8):=by
 by_cases h0:x3<((na:Nat):Int)
 ·obtain⟨h1,h2,h3,h4,h5,L6,K6⟩:=H h0
  refine hX.go [t_ (dt h0),q_ h1,q_ (re na),q_ h1,q_ h1,h_ [.w],c_ [8,9,10,11] (lOwed (sL t C x4 x5 x6 x7 x8) (sD x1 dy x3) h2 h3 h4),q_ h1,q_ (re na),q_ h1,q_ h1,h_ [.draw 13 [10] 1],c_ [8,9,10,11] (lPay (sL t C x4 x5 x6 x7 x8) (sD x1 dy x3) (mo x3.toNat) h2 h3 h4 h5),q_ (show(.agg [I (pyE (sL t C x4 x5 x6 x7 x8) (sD x1 dy x3) (mo x3.toNat)),I (pyA (sL t C x4 x5 x6 x7 x8) (sD x1 dy x3) (mo x3.toNat)),I (pyB (sL t C x4 x5 x6 x7 x8) (sD x1 dy x3) (mo x3.toNat)),I (pyC (sL t C x4 x5 x6 x7 x8) (sD x1 dy x3) (mo x3.toNat))]:SV)= .agg [I (pyE (sL t C x4 x5 x6 x7 x8) (sD x1 dy x3) (mo x3.toNat)),I (pyA (sL t C x4 x5 x6 x7 x8) (sD x1 dy x3) (mo x3.toNat)),I (pyB (sL t C x4 x5 x6 x7 x8) (sD x1 dy x3) (mo x3.toNat)),I (pyC (sL t C x4 x5 x6 x7 x8) (sD x1 dy x3) (mo x3.toNat))]from rfl),q_ (show(.agg [I (pyE (sL t C x4 x5 x6 x7 x8) (sD x1 dy x3) (mo x3.toNat)),I (pyA (sL t C x4 x5 x6 x7 x8) (sD x1 dy x3) (mo x3.toNat)),I (pyB (sL t C x4 x5 x6 x7 x8) (sD x1 dy x3) (mo x3.toNat)),I (pyC (sL t C x4 x5 x6 x7 x8) (sD x1 dy x3) (mo x3.toNat))]:SV)= .agg [I (pyE (sL t C x4 x5 x6 x7 x8) (sD x1 dy x3) (mo x3.toNat)),I (pyA (sL t C x4 x5 x6 x7 x8) (sD x1 dy x3) (mo x3.toNat)),I (pyB (sL t C x4 x5 x6 x7 x8) (sD x1 dy x3) (mo x3.toNat)),I (pyC (sL t C x4 x5 x6 x7 x8) (sD x1 dy x3) (mo x3.toNat))]from rfl)] ?_
  by_cases h6:(pyE (sL t C x4 x5 x6 x7 x8) (sD x1 dy x3) (mo x3.toNat))=0
  ·obtain⟨c7,K7⟩:=K6 h6
   refine hX.go [f_ (bne_eq_false_iff_eq.2 h6)] ?_
   by_cases h7:(goE (sD x1 dy x3))=0
   ·obtain⟨c8,K8⟩:=K7
    by_cases h8:(pyA (sL t C x4 x5 x6 x7 x8) (sD x1 dy x3) (mo x3.toNat))<0
    ·exact absurd h8 c8
    ·obtain⟨c9,K9⟩:=K8
     by_cases h9:(pyB (sL t C x4 x5 x6 x7 x8) (sD x1 dy x3) (mo x3.toNat))<0
     ·exact absurd h9 c9
     ·obtain⟨c10,K10⟩:=K9
      by_cases h10:(pyC (sL t C x4 x5 x6 x7 x8) (sD x1 dy x3) (mo x3.toNat))<0
      ·exact absurd h10 c10
      ·obtain⟨c11,K11⟩:=K10
       by_cases h11:(IntKind.wrap .i64 ((IntKind.wrap .i64 ((pyA (sL t C x4 x5 x6 x7 x8) (sD x1 dy x3) (mo x3.toNat))+(pyB (sL t C x4 x5 x6 x7 x8) (sD x1 dy x3) (mo x3.toNat))))+(pyC (sL t C x4 x5 x6 x7 x8) (sD x1 dy x3) (mo x3.toNat))))=(mo x3.toNat)
       ·obtain⟨c12,K12⟩:=K11
        by_cases h12:(pyA (sL t C x4 x5 x6 x7 x8) (sD x1 dy x3) (mo x3.toNat))>(owV (sL t C x4 x5 x6 x7 x8) (sD x1 dy x3))
        ·exact absurd h12 c12
        ·obtain⟨c13,K13⟩:=K12
         by_cases h13:(pyB (sL t C x4 x5 x6 x7 x8) (sD x1 dy x3) (mo x3.toNat))>x4
         ·exact absurd h13 c13
         ·obtain⟨L14,K14⟩:=K13
          by_cases h14:(pyB (sL t C x4 x5 x6 x7 x8) (sD x1 dy x3) (mo x3.toNat))>0
          ·obtain⟨c15,K15⟩:=L14 h14
           refine hX.go [d_ 54,n_ 4 (f_ (bne_eq_false_iff_eq.2 h7)),n_ 4 (f_ (df h8)),n_ 4 (f_ (df h9)),n_ 5 (f_ (df h10)),h_ [.w],n_ 3 (f_ (df h10)),h_ [.w],n_ 3 (f_ (df h10)),q_ h1,q_ (re na),f_ (df h10),q_ h1,f_ (df h10),q_ h1,f_ (df h10),f_ (df h10),n_ 5 (f_ (bne_eq_false_iff_eq.2 h11)),n_ 6 (f_ (df h12)),n_ 4 (f_ (df h13)),n_ 4 (t_ (dt h14)),f_ (df h13),t_ (dt h14),f_ (df h13)] ?_
           by_cases h15:(pyA (sL t C x4 x5 x6 x7 x8) (sD x1 dy x3) (mo x3.toNat))<(owV (sL t C x4 x5 x6 x7 x8) (sD x1 dy x3))
           ·exact absurd h15 c15
           ·obtain⟨L16,K16⟩:=K15
            refine hX.go [n_ 4 (f_ (df h15))] ?_
            by_cases h16:(pyC (sL t C x4 x5 x6 x7 x8) (sD x1 dy x3) (mo x3.toNat))>0
            ·obtain⟨c17,K17⟩:=L16 h16
             refine hX.go [n_ 3 (t_ (dt h16)),f_ (df h15),t_ (dt h16),f_ (df h15)] ?_
             by_cases h17:((pyL (sL t C x4 x5 x6 x7 x8) (sD x1 dy x3) (mo x3.toNat)).op)>0
             ·exact absurd h17 c17
             ·obtain⟨c18,K18⟩:=K17
              refine hX.go [f_ (df h17),h_ [.w, .w]] ?_
              by_cases h18:(IntKind.wrap .i64 (((pyL (sL t C x4 x5 x6 x7 x8) (sD x1 dy x3) (mo x3.toNat)).op)+((pyL (sL t C x4 x5 x6 x7 x8) (sD x1 dy x3) (mo x3.toNat)).ba)))=t.a1
              ·obtain⟨c19,K19⟩:=K18
               refine hX.go [n_ 4 (f_ (bne_eq_false_iff_eq.2 h18))] ?_
               by_cases h19:((pyL (sL t C x4 x5 x6 x7 x8) (sD x1 dy x3) (mo x3.toNat)).op)<0
               ·exact absurd h19 c19
               ·obtain⟨c20,K20⟩:=K19
                refine hX.go [n_ 6 (f_ (df h19))] ?_
                by_cases h20:((pyL (sL t C x4 x5 x6 x7 x8) (sD x1 dy x3) (mo x3.toNat)).ba)<x7
                ·exact absurd h20 c20
                ·obtain⟨c21,K21⟩:=K20
                 refine hX.go [n_ 5 (f_ (df h20))] ?_
                 by_cases h21:((pyL (sL t C x4 x5 x6 x7 x8) (sD x1 dy x3) (mo x3.toNat)).it)=(IntKind.wrap .i64 (x2+(pyA (sL t C x4 x5 x6 x7 x8) (sD x1 dy x3) (mo x3.toNat))))
                 ·obtain⟨c22,K22⟩:=K21
                  refine hX.go [n_ 6 (f_ (bne_eq_false_iff_eq.2 h21)),h_ [.w],f_ (bne_eq_false_iff_eq.2 h21),f_ (bne_eq_false_iff_eq.2 h21)] ?_
                  by_cases h22:((pyL (sL t C x4 x5 x6 x7 x8) (sD x1 dy x3) (mo x3.toNat)).du)=(IntKind.wrap .i64 ((owV (sL t C x4 x5 x6 x7 x8) (sD x1 dy x3))-(pyA (sL t C x4 x5 x6 x7 x8) (sD x1 dy x3) (mo x3.toNat))))
                  ·have k:=K22
                   exact hX.h 13 [f_ (bne_eq_false_iff_eq.2 h22),h_ [.w]] [.old 0, .old 1, .old 2, .old 3, .old 1004, .old 1005, .old 1006, .old 1007, .old 8, .old 9, .old 10, .old 11, .old 1012, .old 13] k
                  ·exact absurd c22 h22
                 ·exact absurd c21 h21
              ·exact absurd c18 h18
            ·obtain⟨c17,K17⟩:=K16 h16
             refine hX.go [n_ 3 (f_ (df h16)),f_ (df h15),f_ (df h16),f_ (df h15),f_ rf,h_ [.w, .w]] ?_
             by_cases h17:(IntKind.wrap .i64 (((pyL (sL t C x4 x5 x6 x7 x8) (sD x1 dy x3) (mo x3.toNat)).op)+((pyL (sL t C x4 x5 x6 x7 x8) (sD x1 dy x3) (mo x3.toNat)).ba)))=t.a1
             ·obtain⟨c18,K18⟩:=K17
              refine hX.go [n_ 4 (f_ (bne_eq_false_iff_eq.2 h17))] ?_
              by_cases h18:((pyL (sL t C x4 x5 x6 x7 x8) (sD x1 dy x3) (mo x3.toNat)).op)<0
              ·exact absurd h18 c18
              ·obtain⟨c19,K19⟩:=K18
               refine hX.go [n_ 6 (f_ (df h18))] ?_
               by_cases h19:((pyL (sL t C x4 x5 x6 x7 x8) (sD x1 dy x3) (mo x3.toNat)).ba)<x7
               ·exact absurd h19 c19
               ·obtain⟨c20,K20⟩:=K19
                refine hX.go [n_ 5 (f_ (df h19))] ?_
                by_cases h20:((pyL (sL t C x4 x5 x6 x7 x8) (sD x1 dy x3) (mo x3.toNat)).it)=(IntKind.wrap .i64 (x2+(pyA (sL t C x4 x5 x6 x7 x8) (sD x1 dy x3) (mo x3.toNat))))
                ·obtain⟨c21,K21⟩:=K20
                 refine hX.go [n_ 6 (f_ (bne_eq_false_iff_eq.2 h20)),h_ [.w],f_ (bne_eq_false_iff_eq.2 h20),f_ (bne_eq_false_iff_eq.2 h20)] ?_
                 by_cases h21:((pyL (sL t C x4 x5 x6 x7 x8) (sD x1 dy x3) (mo x3.toNat)).du)=(IntKind.wrap .i64 ((owV (sL t C x4 x5 x6 x7 x8) (sD x1 dy x3))-(pyA (sL t C x4 x5 x6 x7 x8) (sD x1 dy x3) (mo x3.toNat))))
                 ·have k:=K21
                  exact hX.h 13 [f_ (bne_eq_false_iff_eq.2 h21),h_ [.w]] [.old 0, .old 1, .old 2, .old 3, .old 1004, .old 1005, .old 1006, .old 1007, .old 8, .old 9, .old 10, .old 11, .old 1012, .old 13] k
                 ·exact absurd c21 h21
                ·exact absurd c20 h20
             ·exact absurd c17 h17
          ·obtain⟨L15,K15⟩:=K14 h14
           refine hX.go [d_ 54,n_ 4 (f_ (bne_eq_false_iff_eq.2 h7)),n_ 4 (f_ (df h8)),n_ 4 (f_ (df h9)),n_ 5 (f_ (df h10)),h_ [.w],n_ 3 (f_ (df h10)),h_ [.w],n_ 3 (f_ (df h10)),q_ h1,q_ (re na),f_ (df h10),q_ h1,f_ (df h10),q_ h1,f_ (df h10),f_ (df h10),n_ 5 (f_ (bne_eq_false_iff_eq.2 h11)),n_ 6 (f_ (df h12)),n_ 4 (f_ (df h13)),n_ 4 (f_ (df h14)),f_ (df h13),f_ (df h14),f_ (df h13),n_ 4 (f_ rf)] ?_
           by_cases h15:(pyC (sL t C x4 x5 x6 x7 x8) (sD x1 dy x3) (mo x3.toNat))>0
           ·obtain⟨c16,K16⟩:=L15 h15
            refine hX.go [n_ 3 (t_ (dt h15)),f_ rf,t_ (dt h15),f_ rf] ?_
            by_cases h16:((pyL (sL t C x4 x5 x6 x7 x8) (sD x1 dy x3) (mo x3.toNat)).op)>0
            ·exact absurd h16 c16
            ·obtain⟨c17,K17⟩:=K16
             refine hX.go [f_ (df h16),h_ [.w, .w]] ?_
             by_cases h17:(IntKind.wrap .i64 (((pyL (sL t C x4 x5 x6 x7 x8) (sD x1 dy x3) (mo x3.toNat)).op)+((pyL (sL t C x4 x5 x6 x7 x8) (sD x1 dy x3) (mo x3.toNat)).ba)))=t.a1
             ·obtain⟨c18,K18⟩:=K17
              refine hX.go [n_ 4 (f_ (bne_eq_false_iff_eq.2 h17))] ?_
              by_cases h18:((pyL (sL t C x4 x5 x6 x7 x8) (sD x1 dy x3) (mo x3.toNat)).op)<0
              ·exact absurd h18 c18
              ·obtain⟨c19,K19⟩:=K18
               refine hX.go [n_ 6 (f_ (df h18))] ?_
               by_cases h19:((pyL (sL t C x4 x5 x6 x7 x8) (sD x1 dy x3) (mo x3.toNat)).ba)<x7
               ·exact absurd h19 c19
               ·obtain⟨c20,K20⟩:=K19
                refine hX.go [n_ 5 (f_ (df h19))] ?_
                by_cases h20:((pyL (sL t C x4 x5 x6 x7 x8) (sD x1 dy x3) (mo x3.toNat)).it)=(IntKind.wrap .i64 (x2+(pyA (sL t C x4 x5 x6 x7 x8) (sD x1 dy x3) (mo x3.toNat))))
                ·obtain⟨c21,K21⟩:=K20
                 refine hX.go [n_ 6 (f_ (bne_eq_false_iff_eq.2 h20)),h_ [.w],f_ (bne_eq_false_iff_eq.2 h20),f_ (bne_eq_false_iff_eq.2 h20)] ?_
                 by_cases h21:((pyL (sL t C x4 x5 x6 x7 x8) (sD x1 dy x3) (mo x3.toNat)).du)=(IntKind.wrap .i64 ((owV (sL t C x4 x5 x6 x7 x8) (sD x1 dy x3))-(pyA (sL t C x4 x5 x6 x7 x8) (sD x1 dy x3) (mo x3.toNat))))
                 ·have k:=K21
                  exact hX.h 13 [f_ (bne_eq_false_iff_eq.2 h21),h_ [.w]] [.old 0, .old 1, .old 2, .old 3, .old 1004, .old 1005, .old 1006, .old 1007, .old 8, .old 9, .old 10, .old 11, .old 1012, .old 13] k
                 ·exact absurd c21 h21
                ·exact absurd c20 h20
             ·exact absurd c17 h17
           ·obtain⟨c16,K16⟩:=K15 h15
            refine hX.go [n_ 3 (f_ (df h15)),f_ rf,f_ (df h15),f_ rf,f_ rf,h_ [.w, .w]] ?_
            by_cases h16:(IntKind.wrap .i64 (((pyL (sL t C x4 x5 x6 x7 x8) (sD x1 dy x3) (mo x3.toNat)).op)+((pyL (sL t C x4 x5 x6 x7 x8) (sD x1 dy x3) (mo x3.toNat)).ba)))=t.a1
            ·obtain⟨c17,K17⟩:=K16
             refine hX.go [n_ 4 (f_ (bne_eq_false_iff_eq.2 h16))] ?_
             by_cases h17:((pyL (sL t C x4 x5 x6 x7 x8) (sD x1 dy x3) (mo x3.toNat)).op)<0
             ·exact absurd h17 c17
             ·obtain⟨c18,K18⟩:=K17
              refine hX.go [n_ 6 (f_ (df h17))] ?_
              by_cases h18:((pyL (sL t C x4 x5 x6 x7 x8) (sD x1 dy x3) (mo x3.toNat)).ba)<x7
              ·exact absurd h18 c18
              ·obtain⟨c19,K19⟩:=K18
               refine hX.go [n_ 5 (f_ (df h18))] ?_
               by_cases h19:((pyL (sL t C x4 x5 x6 x7 x8) (sD x1 dy x3) (mo x3.toNat)).it)=(IntKind.wrap .i64 (x2+(pyA (sL t C x4 x5 x6 x7 x8) (sD x1 dy x3) (mo x3.toNat))))
               ·obtain⟨c20,K20⟩:=K19
                refine hX.go [n_ 6 (f_ (bne_eq_false_iff_eq.2 h19)),h_ [.w],f_ (bne_eq_false_iff_eq.2 h19),f_ (bne_eq_false_iff_eq.2 h19)] ?_
                by_cases h20:((pyL (sL t C x4 x5 x6 x7 x8) (sD x1 dy x3) (mo x3.toNat)).du)=(IntKind.wrap .i64 ((owV (sL t C x4 x5 x6 x7 x8) (sD x1 dy x3))-(pyA (sL t C x4 x5 x6 x7 x8) (sD x1 dy x3) (mo x3.toNat))))
                ·have k:=K20
                 exact hX.h 13 [f_ (bne_eq_false_iff_eq.2 h20),h_ [.w]] [.old 0, .old 1, .old 2, .old 3, .old 1004, .old 1005, .old 1006, .old 1007, .old 8, .old 9, .old 10, .old 11, .old 1012, .old 13] k
                ·exact absurd c20 h20
               ·exact absurd c19 h19
            ·exact absurd c16 h16
       ·exact absurd c11 h11
   ·exact absurd c7 h7
  ·obtain⟨h7,c8,K8⟩:=L6 h6
   refine hX.go [t_ (bne_iff_ne.2 h6),c_ [8,9,10,11] (rSame22 h7),n_ 4 (f_ rf)] ?_
   by_cases h8:(pyA (sL t C x4 x5 x6 x7 x8) (sD x1 dy x3) (mo x3.toNat))=0
   ·obtain⟨c9,K9⟩:=K8
    refine hX.go [n_ 4 (f_ (bne_eq_false_iff_eq.2 h8))] ?_
    by_cases h9:(pyB (sL t C x4 x5 x6 x7 x8) (sD x1 dy x3) (mo x3.toNat))=0
    ·obtain⟨c10,K10⟩:=K9
     refine hX.go [n_ 4 (f_ (bne_eq_false_iff_eq.2 h9))] ?_
     by_cases h10:(pyC (sL t C x4 x5 x6 x7 x8) (sD x1 dy x3) (mo x3.toNat))=0
     ·have k:=K10
      exact hX.h 9 [f_ (bne_eq_false_iff_eq.2 h10),h_ [.w]] [.old 0, .old 1, .old 2, .old 3, .old 1004, .old 1005, .old 1006, .old 1007, .old 8, .old 9, .old 10, .old 11, .old 1012, .old 13] k
     ·exact absurd c10 h10
    ·exact absurd c9 h9
   ·exact absurd c8 h8
 ·exact hX.e [f_ (df h0)]
theorem wr_in {x:Int} (h: -9000000000000000000≤x∧x≤9000000000000000000):IntKind.wrap .i64 x=x:=wrap_InR (by simp only[InR];omega)
theorem lv_up {t:Tms} {C:Cl} {k:Nat} {paid op du fr ba it:Int} (v:Lv t C k paid op du fr ba it) (hk:k+1≤12):Lv t C (k+1) paid op du fr ba it:=⟨v.g,v.s,v.b,v.i,v.p,hk,by have:=v.c;omega⟩
theorem lSums_loop {X:Cx} {t:Tms} {C:Cl} {na:Nat} {pb:Nat→Bool} {dy mo:Nat→Int} (hX:Fi X 5 (acH C na pb dy mo) (B true) []) (p:P36 t C) (hn:na≤12):
  ∀ (f j:Nat) {day paid op du fr ba it:Int},j+f=na→Lv t C j paid op du fr ba it→Ok X (lSums22_h0 t C na pb dy mo day paid j op du fr ba it):=by
 intro f
 induction f with
 |zero=>exact fun j _ _ _ _ _ _ _ hj _=>lSums22_w1 hX fun q=>absurd q (by omega)
 |succ f ih=>
  intro j day paid op du fr ba it hj v
  have hmon:=chk_mon (sch0 p.h).1
  have e1:IntKind.wrap .i64 ((j:Int)+1)=((j+1:Nat):Int):=wr_in (by omega)
  refine lSums22_w1 hX fun q=> ?_
  rw[e1]
  have bs:=good_base p v.g
  generalize sD day dy j=n
  rw[Int.toNat_natCast]
  generalize mo j=m
  have cl:=cnR_le (R:=fun i=>(tR t C i).1) (x:=fr) (tN t)
  have t36:=tN_36 p
  have vg:=v.g
  have vs:=v.s
  have vb:=v.b
  have vi:=v.i
  have vp:=v.p
  have vc:=v.c
  have vo:0≤op:=vg.op.1
  have vd:0≤du:=vg.du.1
  refine⟨by omega,bs.1,bs.2.1,bs.2.2,py_okS p vg (by decide) (show 0≤ba∧ba≤_ by omega) (show 0≤it∧it≤_ by omega),fun he=> ?_,fun he=> ?_⟩
  ·obtain⟨q1,q2,q3,q4⟩:=py_no he
   refine⟨lnEq_of p ?_ rfl rfl rfl rfl,q2,q3,q4,ih (j+1) (by omega) (lv_up v (by omega))⟩
   rw[q1]
  ·have v':=lv_pay p v (by omega) he
   obtain⟨y1,y2⟩:=py_yes he
   obtain⟨z1,z2,z3,z4,z5,z6,z7,z8⟩:=py_val he
   obtain⟨se,b1,b2,b3,b4⟩:=se_good (day:=n) p vg (by decide)
   have ow:owV (sL t C op du fr ba it) n=(seS (sL t C op du fr ba it) n).1:=if_pos y1
   have a1:=mnI_le (x:=m) (y:=(seS (sL t C op du fr ba it) n).1)
   have a2:=mnI_le (x:=m-mnI m (seS (sL t C op du fr ba it) n).1) (y:=op)
   have cl':=cnR_le (R:=fun i=>(tR t C i).1) (x:=(pyL (sL t C op du fr ba it) n m).fr) (tN t)
   have ws:=v'.s
   have wb:=v'.b
   have wi:=v'.i
   have wp:=v'.p
   have wc:=v'.c
   have wo:0≤(pyL (sL t C op du fr ba it) n m).op:=v'.g.op.1
   have wd:0≤(pyL (sL t C op du fr ba it) n m).du:=v'.g.du.1
   have k:=ih (j+1) (day:=n) (by omega) v'
   rw[←z1]at a1 a2 z2 z3 z4 z5 z7 z8
   rw[show(sL t C op du fr ba it).op=op from rfl]at z2 z3 z4 z7
   rw[←z2]at a2 z3 z4 z7
   rw[show(sL t C op du fr ba it).ba=ba from rfl]at z7
   rw[show(sL t C op du fr ba it).it=it from rfl]at z8
   rw[ow]
   generalize (seS (sL t C op du fr ba it) n).1=D at*
   generalize pyA (sL t C op du fr ba it) n m=A at*
   generalize pyB (sL t C op du fr ba it) n m=B' at*
   generalize pyC (sL t C op du fr ba it) n m=C' at*
   rw[wr_in (x:=A+B') (by omega),wr_in (x:=A+B'+C') (by omega),wr_in (x:=(pyL (sL t C op du fr ba it) n m).op+(pyL (sL t C op du fr ba it) n m).ba) (by omega),wr_in (x:=paid+A) (by omega),wr_in (x:=D-A) (by omega)]
   have T:(pyL (sL t C op du fr ba it) n m).op+(pyL (sL t C op du fr ba it) n m).ba=t.a1∧ ¬(pyL (sL t C op du fr ba it) n m).op<0∧ ¬(pyL (sL t C op du fr ba it) n m).ba<ba∧(pyL (sL t C op du fr ba it) n m).it=paid+A∧(pyL (sL t C op du fr ba it) n m).du=D-A∧
     Ok X (lSums22_h0 t C na pb dy mo n (paid+A) ((j+1:Nat):Int) (pyL (sL t C op du fr ba it) n m).op (pyL (sL t C op du fr ba it) n m).du (pyL (sL t C op du fr ba it) n m).fr (pyL (sL t C op du fr ba it) n m).ba (pyL (sL t C op du fr ba it) n m).it):=
    ⟨ws,by omega,by omega,by omega,z5,k⟩
   exact⟨if_pos y1,by omega,by omega,by omega,by omega,by omega,by omega,fun hB=>⟨by omega,fun hC=>⟨by omega,T⟩,fun _=>T⟩,fun hB=>⟨fun hC=>⟨by omega,T⟩,fun _=>T⟩⟩
theorem lSums22 (t:Tms) (C:Cl) (na:Nat) (pb:Nat→Bool) (dy mo:Nat→Int):S 5 [tmL t,calL C, .sl 2 na] (acH C na pb dy mo) (B true) []:=by
 refine SCall.st fun X hX=>lSums22_w0 hX fun(h0:tCk t=0) h hn=> ?_
 have hm:=shP_t h (by decide)
 refine⟨hm.2.1,hm.1,fun q=> ?_⟩
 have p:P36 t C:=⟨hm.2.1,q,by have:=hm.2.2 h0;omega⟩
 have hn2:=tN_36 p
 have e1:plN t C=tN t:=if_pos q
 exact⟨by omega,lSums_loop hX p (by omega) na 0 (by omega) (lv_0 p)⟩
end Go.Proofs.YtelidogcomffkaaGreatDoor
