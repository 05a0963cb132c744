/-
LoanTells: the row and its card: for every input the law answers true and its arguments read as before.
-/
import Derived.Test.YtelidogcomffkaaGreatDoorSh22
import Derived.Test.YtelidogcomffkaaGreatDoorCards
import Derived.Test.YtelidogcomffkaaGreatDoorTie
import Derived.Deep.Slices
import Derived.Stop.LaidErr
import Derived.ChangeArms
import Derived.Deep.SlicePairs
import Derived.Stop.LaidTwo
import Derived.ChangeCalls
import Derived.Test.YtelidogcomffkaaGreatDoorRows
import Derived.WalkKit
import Derived.ProofKit
import Derived.OpenShut
import Derived.Deep.DeepHandedRow
import Derived.Deep.Fields
import Derived.Lib.LaidTab
import Derived.Carry
import Derived.LaidHandle
import Derived.LaidLaws
import Derived.ChangeSlices
import Derived.ChangeSame
import Derived.RowKit
import Derived.Test.YtelidogcomffkaaGreatDoorProg
import Derived.KernelRfl
set_option linter.unusedSectionVars false
set_option linter.unusedSimpArgs false
set_option linter.unusedVariables false
set_option maxRecDepth 100000
namespace Go.Proofs.YtelidogcomffkaaGreatDoor
open Go Go.Sx
variable [dc]
noncomputable def qq (t:cj) (C:Cl) (na:Nat) (pb:Nat→Bool) (dy:Nat→Int) (mo:Nat→Int) (ask:Int) (x1:Int) (x2:Int) (x3:Int) (x4:Int) (x5:Int) (x6:Int) (x7:Int) (x8:Int) (x9:Int) (x10:Int) (x11:Int) (x12:Int):SC:=
 ⟨[⟨3,bJ 186 [(5, .sl 2 na),(6,I ask),(7,B true),(8, .ptr 14 0),(10, .ptr 23 0),(12,I x1),(13,I x2)],[.code (aa Tryz.f3 [1,1,1,1,1,1,1,1,1,1,1,1,0,1,0,0]), .inLoop (aa Tryz.f3 [1,1,1,1,1,1,1,1,1,1,1,1,0,1,0,0]), .inBlock 0, .code (aa Tryz.f3 [1,1,1,1,1,1,1,1,1,1,1,1,1])],{}⟩],[some (.row false 109 C.nr 8 (fun i=>[I ((C.R i).kind),I ((C.R i).aY),I ((C.R i).day),I ((C.R i).k),I ((C.R i).off),I ((C.R i).sh),I ((C.R i).fr),I ((C.R i).to)])),some (.row false 3 C.nd 1 (fun i=>[I (C.D i)])),some (.row false 48 na 3 (fun i=>[B (pb i),I (dy i),I (mo i)])),none,none,none,none,none,none,some (.row true 3 (eA t C) 1 (fun i=>[I (tD t i)])),some (.row true 3 (eA t C) 1 (fun i=>[I ((tR t C i).1)])),some (.row true 121 (eA t C-1) 2 (fun i=>[I ((tP t C i).1),I ((tP t C i).2.1)])),some (.row true 3 (uM t C) 1 (fun i=>[I ((tQ t C i).1)])),none,some (.box true [I t.a1,I t.a2,I t.a3,I t.a4,I t.a5,I t.a6,I t.a7,B (t.a8),B (t.a9),B (t.ak),I t.ah, .sl 9 (eA t C), .sl 10 (eA t C), .sl 11 (eA t C-1),B (DL t C),I (DK t C),I (DJ t C), .sl 12 (uM t C),I x3,I x4,I x5,I x6,I x7]),none,none,none,some (.row true 3 (eA t C) 1 (fun i=>[I (tD t i)])),some (.row true 3 (eA t C) 1 (fun i=>[I ((tR t C i).1)])),some (.row true 121 (eA t C-1) 2 (fun i=>[I ((tP t C i).1),I ((tP t C i).2.1)])),some (.row true 3 (uM t C) 1 (fun i=>[I ((tQ t C i).1)])),none,some (.box true [I t.a1,I t.a2,I t.a3,I t.a4,I t.a5,I t.a6,I t.a7,B (t.a8),B (t.a9),B (t.ak),I t.ah, .sl 18 (eA t C), .sl 19 (eA t C), .sl 20 (eA t C-1),B (DL t C),I (DK t C),I (DJ t C), .sl 21 (uM t C),I x8,I x9,I x10,I x11,I x12])]⟩
theorem Gb {X:Cx} {t:cj} {C:Cl} {na:Nat} {pb:Nat→Bool} {dy mo:Nat→Int} {ask:Int} (hX:Fi X 3 (KC C na pb dy mo) (B true) []) (H:((HX t C 36)=true→(¬((na:Nat):Int)>12→xk t∧bU C∧((bF t C)≠0→(bF t C)=(bF t C))∧((bF t C)=0→((0:Int)≤0∧0<(((eA t C):Nat):Int))∧Fj (oL t C) (oL t C)∧Ok X (qq t C na pb dy mo ask t.a5 0 t.a1 0 ((tR t C 0).1) 0 0 t.a1 0 ((tR t C 0).1) 0 0))))):
  Ok X (entry Tryz.prog 3 [.agg [I t.a1,I t.a2,I t.a3,I t.a4,I t.a5,I t.a6,I t.a7,B (t.a8),B (t.a9),B (t.ak),I t.ah,B (C.off 0),B (C.off 1),B (C.off 2),B (C.off 3),B (C.off 4),B (C.off 5),B (C.off 6), .sl 0 C.nr, .sl 1 C.nd, .sl 2 na,I ask]] (KC C na pb dy mo)):=by
 refine hX.go [c_ [] FD,c_ [0,1] (show S 11 [.agg [I t.a1,I t.a2,I t.a3,I t.a4,I t.a5,I t.a6,I t.a7,B (t.a8),B (t.a9),B (t.ak),I t.ah], .agg [B (C.off 0),B (C.off 1),B (C.off 2),B (C.off 3),B (C.off 4),B (C.off 5),B (C.off 6), .sl 0 C.nr, .sl 1 C.nd],I 36] (aB C) (B (HX t C 36)) []from Dr t (by decide))] ?_
 rcases aq (HX t C 36)with h0|h0
 ·have K1:=H h0
  refine hX.go [n_ 4 (f_ (nf h0))] ?_
  by_cases h1:((na:Nat):Int)>12
  ·exact hX.e [t_ (dt h1)]
  ·obtain⟨h2,h3,L4,K4⟩:=K1 h1
   refine hX.go [f_ (df h1),i_,c_ [0,1] (show S 31 [.agg [I t.a1,I t.a2,I t.a3,I t.a4,I t.a5,I t.a6,I t.a7,B (t.a8),B (t.a9),B (t.ak),I t.ah], .agg [B (C.off 0),B (C.off 1),B (C.off 2),B (C.off 3),B (C.off 4),B (C.off 5),B (C.off 6), .sl 0 C.nr, .sl 1 C.nd]] (aB C) (.af [.agg [.sl 2 (eA t C), .sl 3 (eA t C), .sl 4 (eA t C-1),B (DL t C),I (DK t C),I (DJ t C), .sl 5 (uM t C)],I (bF t C)]) [some (.row true 3 (eA t C) 1 (fun i=>[I (tD t i)])),some (.row true 3 (eA t C) 1 (fun i=>[I ((tR t C i).1)])),some (.row true 121 (eA t C-1) 2 (fun i=>[I ((tP t C i).1),I ((tP t C i).2.1)])),some (.row true 3 (uM t C) 1 (fun i=>[I ((tQ t C i).1)]))]from Ma t h2 h3)] ?_
   by_cases h4:(bF t C)=0
   ·obtain⟨h5,h6,k⟩:=K4 h4
    exact hX.h 98 [f_ (bne_eq_false_iff_eq.2 h4),q_ h5,q_ (show(eA t C)=(eA t C)from rfl),q_ h5,d_ 8,i_,c_ [0,1] (show S 32 [.agg [I t.a1,I t.a2,I t.a3,I t.a4,I t.a5,I t.a6,I t.a7,B (t.a8),B (t.a9),B (t.ak),I t.ah], .agg [B (C.off 0),B (C.off 1),B (C.off 2),B (C.off 3),B (C.off 4),B (C.off 5),B (C.off 6), .sl 0 C.nr, .sl 1 C.nd]] (aB C) (.af [.agg [.sl 2 (eA t C), .sl 3 (eA t C), .sl 4 (eA t C-1),B (DL t C),I (DK t C),I (DJ t C), .sl 5 (uM t C)],I (bF t C)]) [some (.row true 3 (eA t C) 1 (fun i=>[I (tD t i)])),some (.row true 3 (eA t C) 1 (fun i=>[I ((tR t C i).1)])),some (.row true 121 (eA t C-1) 2 (fun i=>[I ((tP t C i).1),I ((tP t C i).2.1)])),some (.row true 3 (uM t C) 1 (fun i=>[I ((tQ t C i).1)]))]from G6 t h2 h3),f_ (bne_eq_false_iff_eq.2 h4),q_ h5,q_ (show(eA t C)=(eA t C)from rfl),q_ h5,d_ 8,n_ 3 (f_ rf),c_ [9,10,11,12,18,19,20,21] (zu (oL t C) (oL t C) h6),n_ 4 (f_ rf)] [.ae 0, .ae 1, .ae 2, .ae 1003, .ae 1004, .ae 1005, .ae 1006, .ae 1007, .ae 1008, .ae 9, .ae 10, .ae 11, .ae 12, .ae 1013, .ae 14, .ae 1015, .ae 1016, .ae 1017, .ae 18, .ae 19, .ae 20, .ae 21, .ae 1022, .ae 23] k
   ·have c5:=L4 h4
    refine hX.go [t_ (bne_iff_ne.2 h4),i_,c_ [0,1] (show S 32 [.agg [I t.a1,I t.a2,I t.a3,I t.a4,I t.a5,I t.a6,I t.a7,B (t.a8),B (t.a9),B (t.ak),I t.ah], .agg [B (C.off 0),B (C.off 1),B (C.off 2),B (C.off 3),B (C.off 4),B (C.off 5),B (C.off 6), .sl 0 C.nr, .sl 1 C.nd]] (aB C) (.af [.agg [.sl 2 (eA t C), .sl 3 (eA t C), .sl 4 (eA t C-1),B (DL t C),I (DK t C),I (DJ t C), .sl 5 (uM t C)],I (bF t C)]) [some (.row true 3 (eA t C) 1 (fun i=>[I (tD t i)])),some (.row true 3 (eA t C) 1 (fun i=>[I ((tR t C i).1)])),some (.row true 121 (eA t C-1) 2 (fun i=>[I ((tP t C i).1),I ((tP t C i).2.1)])),some (.row true 3 (uM t C) 1 (fun i=>[I ((tQ t C i).1)]))]from G6 t h2 h3),t_ (bne_iff_ne.2 h4)] ?_
    by_cases h5:(bF t C)=(bF t C)
    ·exact hX.e [n_ 3 (f_ (bne_eq_false_iff_eq.2 h5)),c_ [] Iw,f_ (bne_eq_false_iff_eq.2 h5),f_ (bne_eq_false_iff_eq.2 h5),f_ rf,t_ (bne_iff_ne.2 h4)]
    ·exact absurd c5 h5
 ·exact hX.e [n_ 4 (t_ (nt h0)),t_ rt]
theorem By {X:Cx} {t:cj} {C:Cl} {na:Nat} {pb:Nat→Bool} {dy mo:Nat→Int} {ask x1 x2 x3 x4 x5 x6 x7 x8 x9 x10 x11 x12:Int} (hX:Fi X 3 (KC C na pb dy mo) (B true) []) (H:(x2<((na:Nat):Int)→((0:Int)≤x2∧x2<((na:Nat):Int))∧((pb x2.toNat)=true→(1≤(sL t C x3 x4 x5 x6 x7).nr∧(sL t C x3 x4 x5 x6 x7).nr≤100000)∧Ir (sL t C x3 x4 x5 x6 x7).op∧Ir (sL t C x3 x4 x5 x6 x7).t.a2∧(1≤(sL t C x8 x9 x10 x11 x12).nr∧(sL t C x8 x9 x10 x11 x12).nr≤100000)∧Ir (sL t C x8 x9 x10 x11 x12).op∧Ir (sL t C x8 x9 x10 x11 x12).t.a2∧(((gz (sL t C x3 x4 x5 x6 x7) (sD x1 dy x2) (mo x2.toNat))==(gz (sL t C x8 x9 x10 x11 x12) (sD x1 dy x2) (mo x2.toNat)))&&(((vM (sL t C x3 x4 x5 x6 x7) (sD x1 dy x2) (mo x2.toNat))==(vM (sL t C x8 x9 x10 x11 x12) (sD x1 dy x2) (mo x2.toNat)))&&(((y6 (sL t C x3 x4 x5 x6 x7) (sD x1 dy x2) (mo x2.toNat))==(y6 (sL t C x8 x9 x10 x11 x12) (sD x1 dy x2) (mo x2.toNat)))&&(((y5 (sL t C x3 x4 x5 x6 x7) (sD x1 dy x2) (mo x2.toNat))==(y5 (sL t C x8 x9 x10 x11 x12) (sD x1 dy x2) (mo x2.toNat)))&&true))))=true∧(1≤(jz (sL t C x3 x4 x5 x6 x7) (sD x1 dy x2) (mo x2.toNat)).nr∧(jz (sL t C x3 x4 x5 x6 x7) (sD x1 dy x2) (mo x2.toNat)).nr≤100000)∧Ir (jz (sL t C x3 x4 x5 x6 x7) (sD x1 dy x2) (mo x2.toNat)).op∧Ir (jz (sL t C x3 x4 x5 x6 x7) (sD x1 dy x2) (mo x2.toNat)).t.a2∧(1≤(jz (sL t C x8 x9 x10 x11 x12) (sD x1 dy x2) (mo x2.toNat)).nr∧(jz (sL t C x8 x9 x10 x11 x12) (sD x1 dy x2) (mo x2.toNat)).nr≤100000)∧Ir (jz (sL t C x8 x9 x10 x11 x12) (sD x1 dy x2) (mo x2.toNat)).op∧Ir (jz (sL t C x8 x9 x10 x11 x12) (sD x1 dy x2) (mo x2.toNat)).t.a2∧Fj (jz (sL t C x3 x4 x5 x6 x7) (sD x1 dy x2) (mo x2.toNat)) (jz (sL t C x8 x9 x10 x11 x12) (sD x1 dy x2) (mo x2.toNat))∧(bZ (jz (sL t C x3 x4 x5 x6 x7) (sD x1 dy x2) (mo x2.toNat)) ask)=(bZ (jz (sL t C x8 x9 x10 x11 x12) (sD x1 dy x2) (mo x2.toNat)) ask)∧(fV ask)=(fV ask)∧(zw (jz (sL t C x3 x4 x5 x6 x7) (sD x1 dy x2) (mo x2.toNat)) (sD x1 dy x2))=(zw (jz (sL t C x8 x9 x10 x11 x12) (sD x1 dy x2) (mo x2.toNat)) (sD x1 dy x2))∧(fV (sD x1 dy x2))=(fV (sD x1 dy x2))∧Ok X (qq t C na pb dy mo ask (sD x1 dy x2) (IntKind.wrap .i64 (x2+1)) ((jz (sL t C x3 x4 x5 x6 x7) (sD x1 dy x2) (mo x2.toNat)).op) ((jz (sL t C x3 x4 x5 x6 x7) (sD x1 dy x2) (mo x2.toNat)).du) ((jz (sL t C x3 x4 x5 x6 x7) (sD x1 dy x2) (mo x2.toNat)).fr) ((jz (sL t C x3 x4 x5 x6 x7) (sD x1 dy x2) (mo x2.toNat)).ba) ((jz (sL t C x3 x4 x5 x6 x7) (sD x1 dy x2) (mo x2.toNat)).it) ((jz (sL t C x8 x9 x10 x11 x12) (sD x1 dy x2) (mo x2.toNat)).op) ((jz (sL t C x8 x9 x10 x11 x12) (sD x1 dy x2) (mo x2.toNat)).du) ((jz (sL t C x8 x9 x10 x11 x12) (sD x1 dy x2) (mo x2.toNat)).fr) ((jz (sL t C x8 x9 x10 x11 x12) (sD x1 dy x2) (mo x2.toNat)).ba) ((jz (sL t C x8 x9 x10 x11 x12) (sD x1 dy x2) (mo x2.toNat)).it)))∧((pb x2.toNat)=false→(1≤(sL t C x3 x4 x5 x6 x7).nr∧(sL t C x3 x4 x5 x6 x7).nr≤100000)∧Ir (sL t C x3 x4 x5 x6 x7).op∧Ir (sL t C x3 x4 x5 x6 x7).t.a2∧(sL t C x8 x9 x10 x11 x12).nr≤100000∧Ir (sL t C x8 x9 x10 x11 x12).op∧Ir (sL t C x8 x9 x10 x11 x12).t.a2∧(fV (sD x1 dy x2))=(fV (sD x1 dy x2))∧(1≤(aM (sL t C x3 x4 x5 x6 x7) (sD x1 dy x2)).nr∧(aM (sL t C x3 x4 x5 x6 x7) (sD x1 dy x2)).nr≤100000)∧Ir (aM (sL t C x3 x4 x5 x6 x7) (sD x1 dy x2)).op∧Ir (aM (sL t C x3 x4 x5 x6 x7) (sD x1 dy x2)).t.a2∧(1≤(aM (sL t C x8 x9 x10 x11 x12) (sD x1 dy x2)).nr∧(aM (sL t C x8 x9 x10 x11 x12) (sD x1 dy x2)).nr≤100000)∧Ir (aM (sL t C x8 x9 x10 x11 x12) (sD x1 dy x2)).op∧Ir (aM (sL t C x8 x9 x10 x11 x12) (sD x1 dy x2)).t.a2∧Fj (aM (sL t C x3 x4 x5 x6 x7) (sD x1 dy x2)) (aM (sL t C x8 x9 x10 x11 x12) (sD x1 dy x2))∧(bZ (aM (sL t C x3 x4 x5 x6 x7) (sD x1 dy x2)) ask)=(bZ (aM (sL t C x8 x9 x10 x11 x12) (sD x1 dy x2)) ask)∧(fV ask)=(fV ask)∧(zw (aM (sL t C x3 x4 x5 x6 x7) (sD x1 dy x2)) (sD x1 dy x2))=(zw (aM (sL t C x8 x9 x10 x11 x12) (sD x1 dy x2)) (sD x1 dy x2))∧Ok X (qq t C na pb dy mo ask (sD x1 dy x2) (IntKind.wrap .i64 (x2+1)) ((aM (sL t C x3 x4 x5 x6 x7) (sD x1 dy x2)).op) ((aM (sL t C x3 x4 x5 x6 x7) (sD x1 dy x2)).du) ((aM (sL t C x3 x4 x5 x6 x7) (sD x1 dy x2)).fr) ((aM (sL t C x3 x4 x5 x6 x7) (sD x1 dy x2)).ba) ((aM (sL t C x3 x4 x5 x6 x7) (sD x1 dy x2)).it) ((aM (sL t C x8 x9 x10 x11 x12) (sD x1 dy x2)).op) ((aM (sL t C x8 x9 x10 x11 x12) (sD x1 dy x2)).du) ((aM (sL t C x8 x9 x10 x11 x12) (sD x1 dy x2)).fr) ((aM (sL t C x8 x9 x10 x11 x12) (sD x1 dy x2)).ba) ((aM (sL t C x8 x9 x10 x11 x12) (sD x1 dy x2)).it))))):
  Ok X (qq t C na pb dy mo ask x1 x2 x3 x4 x5 x6 x7 x8 x9 x10 x11 x12):=by
 by_cases h0:x2<((na:Nat):Int)
 ·obtain⟨h1,L2,K2⟩:=H h0
  refine hX.go [t_ (dt h0),q_ h1,q_ (re na),n_ 3 (q_ h1),q_ (re na),q_ h1,q_ h1,h_ [.w]] ?_
  rcases aq (pb x2.toNat)with h2|h2
  ·obtain⟨h3,h4,h5,h6,h7,h8,c9,K9⟩:=L2 h2
   refine hX.go [t_ h2,q_ h1,q_ (re na),q_ h1,q_ h1,h_ [.draw 13 [10] 1],c_ [9,10,11,12] (Hr (sL t C x3 x4 x5 x6 x7) (sD x1 dy x2) (mo x2.toNat) h3 h4 h5),q_ (show(.agg [I (gz (sL t C x3 x4 x5 x6 x7) (sD x1 dy x2) (mo x2.toNat)),I (vM (sL t C x3 x4 x5 x6 x7) (sD x1 dy x2) (mo x2.toNat)),I (y6 (sL t C x3 x4 x5 x6 x7) (sD x1 dy x2) (mo x2.toNat)),I (y5 (sL t C x3 x4 x5 x6 x7) (sD x1 dy x2) (mo x2.toNat))]:SV)= .agg [I (gz (sL t C x3 x4 x5 x6 x7) (sD x1 dy x2) (mo x2.toNat)),I (vM (sL t C x3 x4 x5 x6 x7) (sD x1 dy x2) (mo x2.toNat)),I (y6 (sL t C x3 x4 x5 x6 x7) (sD x1 dy x2) (mo x2.toNat)),I (y5 (sL t C x3 x4 x5 x6 x7) (sD x1 dy x2) (mo x2.toNat))]from rfl),q_ (show(.agg [I (gz (sL t C x3 x4 x5 x6 x7) (sD x1 dy x2) (mo x2.toNat)),I (vM (sL t C x3 x4 x5 x6 x7) (sD x1 dy x2) (mo x2.toNat)),I (y6 (sL t C x3 x4 x5 x6 x7) (sD x1 dy x2) (mo x2.toNat)),I (y5 (sL t C x3 x4 x5 x6 x7) (sD x1 dy x2) (mo x2.toNat))]:SV)= .agg [I (gz (sL t C x3 x4 x5 x6 x7) (sD x1 dy x2) (mo x2.toNat)),I (vM (sL t C x3 x4 x5 x6 x7) (sD x1 dy x2) (mo x2.toNat)),I (y6 (sL t C x3 x4 x5 x6 x7) (sD x1 dy x2) (mo x2.toNat)),I (y5 (sL t C x3 x4 x5 x6 x7) (sD x1 dy x2) (mo x2.toNat))]from rfl),q_ h1,q_ (re na),q_ h1,q_ h1,h_ [.draw 13 [10] 1],c_ [18,19,20,21] (Iy (sL t C x8 x9 x10 x11 x12) (sD x1 dy x2) (mo x2.toNat) h6 h7 h8),q_ (show(.agg [I (gz (sL t C x8 x9 x10 x11 x12) (sD x1 dy x2) (mo x2.toNat)),I (vM (sL t C x8 x9 x10 x11 x12) (sD x1 dy x2) (mo x2.toNat)),I (y6 (sL t C x8 x9 x10 x11 x12) (sD x1 dy x2) (mo x2.toNat)),I (y5 (sL t C x8 x9 x10 x11 x12) (sD x1 dy x2) (mo x2.toNat))]:SV)= .agg [I (gz (sL t C x8 x9 x10 x11 x12) (sD x1 dy x2) (mo x2.toNat)),I (vM (sL t C x8 x9 x10 x11 x12) (sD x1 dy x2) (mo x2.toNat)),I (y6 (sL t C x8 x9 x10 x11 x12) (sD x1 dy x2) (mo x2.toNat)),I (y5 (sL t C x8 x9 x10 x11 x12) (sD x1 dy x2) (mo x2.toNat))]from rfl),q_ (show(.agg [I (gz (sL t C x8 x9 x10 x11 x12) (sD x1 dy x2) (mo x2.toNat)),I (vM (sL t C x8 x9 x10 x11 x12) (sD x1 dy x2) (mo x2.toNat)),I (y6 (sL t C x8 x9 x10 x11 x12) (sD x1 dy x2) (mo x2.toNat)),I (y5 (sL t C x8 x9 x10 x11 x12) (sD x1 dy x2) (mo x2.toNat))]:SV)= .agg [I (gz (sL t C x8 x9 x10 x11 x12) (sD x1 dy x2) (mo x2.toNat)),I (vM (sL t C x8 x9 x10 x11 x12) (sD x1 dy x2) (mo x2.toNat)),I (y6 (sL t C x8 x9 x10 x11 x12) (sD x1 dy x2) (mo x2.toNat)),I (y5 (sL t C x8 x9 x10 x11 x12) (sD x1 dy x2) (mo x2.toNat))]from rfl)] ?_
   rcases aq (((gz (sL t C x3 x4 x5 x6 x7) (sD x1 dy x2) (mo x2.toNat))==(gz (sL t C x8 x9 x10 x11 x12) (sD x1 dy x2) (mo x2.toNat)))&&(((vM (sL t C x3 x4 x5 x6 x7) (sD x1 dy x2) (mo x2.toNat))==(vM (sL t C x8 x9 x10 x11 x12) (sD x1 dy x2) (mo x2.toNat)))&&(((y6 (sL t C x3 x4 x5 x6 x7) (sD x1 dy x2) (mo x2.toNat))==(y6 (sL t C x8 x9 x10 x11 x12) (sD x1 dy x2) (mo x2.toNat)))&&(((y5 (sL t C x3 x4 x5 x6 x7) (sD x1 dy x2) (mo x2.toNat))==(y5 (sL t C x8 x9 x10 x11 x12) (sD x1 dy x2) (mo x2.toNat)))&&true))))with h9|h9
   ·obtain⟨h10,h11,h12,h13,h14,h15,h16,c17,K17⟩:=K9
    refine hX.go [f_ (nf h9),c_ [9,10,11,12] (Bz (jz (sL t C x3 x4 x5 x6 x7) (sD x1 dy x2) (mo x2.toNat)) ask h10 h11 h12),c_ [18,19,20,21] (sg (jz (sL t C x8 x9 x10 x11 x12) (sD x1 dy x2) (mo x2.toNat)) ask h13 h14 h15),c_ [9,10,11,12] (zO (jz (sL t C x3 x4 x5 x6 x7) (sD x1 dy x2) (mo x2.toNat)) (sD x1 dy x2) h10 h11 h12),c_ [18,19,20,21] (x_ (jz (sL t C x8 x9 x10 x11 x12) (sD x1 dy x2) (mo x2.toNat)) (sD x1 dy x2) h13 h14 h15),c_ [9,10,11,12,18,19,20,21] (zu (jz (sL t C x3 x4 x5 x6 x7) (sD x1 dy x2) (mo x2.toNat)) (jz (sL t C x8 x9 x10 x11 x12) (sD x1 dy x2) (mo x2.toNat)) h16),n_ 4 (f_ rf)] ?_
    by_cases h17:(bZ (jz (sL t C x3 x4 x5 x6 x7) (sD x1 dy x2) (mo x2.toNat)) ask)=(bZ (jz (sL t C x8 x9 x10 x11 x12) (sD x1 dy x2) (mo x2.toNat)) ask)
    ·obtain⟨c18,K18⟩:=K17
     refine hX.go [n_ 4 (f_ (bne_eq_false_iff_eq.2 h17))] ?_
     by_cases h18:(fV ask)=(fV ask)
     ·obtain⟨c19,K19⟩:=K18
      refine hX.go [n_ 4 (f_ (bne_eq_false_iff_eq.2 h18))] ?_
      by_cases h19:(zw (jz (sL t C x3 x4 x5 x6 x7) (sD x1 dy x2) (mo x2.toNat)) (sD x1 dy x2))=(zw (jz (sL t C x8 x9 x10 x11 x12) (sD x1 dy x2) (mo x2.toNat)) (sD x1 dy x2))
      ·obtain⟨c20,K20⟩:=K19
       refine hX.go [n_ 4 (f_ (bne_eq_false_iff_eq.2 h19))] ?_
       by_cases h20:(fV (sD x1 dy x2))=(fV (sD x1 dy x2))
       ·have k:=K20
        exact hX.h 9 [f_ (bne_eq_false_iff_eq.2 h20),h_ [.w]] [.ae 0, .ae 1, .ae 2, .ae 1003, .ae 1004, .ae 1005, .ae 1006, .ae 1007, .ae 1008, .ae 9, .ae 10, .ae 11, .ae 12, .ae 1013, .ae 14, .ae 1015, .ae 1016, .ae 1017, .ae 18, .ae 19, .ae 20, .ae 21, .ae 1022, .ae 23] k
       ·exact absurd c20 h20
      ·exact absurd c19 h19
     ·exact absurd c18 h18
    ·exact absurd c17 h17
   ·exact Go.Sx.Me c9 h9
  ·obtain⟨h3,h4,h5,h6,h7,h8,c9,K9⟩:=K2 h2
   refine hX.go [f_ h2,c_ [9,10,11,12] (Mg (sL t C x3 x4 x5 x6 x7) (sD x1 dy x2) h3 h4 h5),c_ [18,19,20,21] (DA (sL t C x8 x9 x10 x11 x12) (sD x1 dy x2) h6 h7 h8)] ?_
   by_cases h9:(fV (sD x1 dy x2))=(fV (sD x1 dy x2))
   ·obtain⟨h10,h11,h12,h13,h14,h15,h16,c17,K17⟩:=K9
    refine hX.go [f_ (bne_eq_false_iff_eq.2 h9),c_ [9,10,11,12] (Bz (aM (sL t C x3 x4 x5 x6 x7) (sD x1 dy x2)) ask h10 h11 h12),c_ [18,19,20,21] (sg (aM (sL t C x8 x9 x10 x11 x12) (sD x1 dy x2)) ask h13 h14 h15),c_ [9,10,11,12] (zO (aM (sL t C x3 x4 x5 x6 x7) (sD x1 dy x2)) (sD x1 dy x2) h10 h11 h12),c_ [18,19,20,21] (x_ (aM (sL t C x8 x9 x10 x11 x12) (sD x1 dy x2)) (sD x1 dy x2) h13 h14 h15),c_ [9,10,11,12,18,19,20,21] (zu (aM (sL t C x3 x4 x5 x6 x7) (sD x1 dy x2)) (aM (sL t C x8 x9 x10 x11 x12) (sD x1 dy x2)) h16),n_ 4 (f_ rf)] ?_
    by_cases h17:(bZ (aM (sL t C x3 x4 x5 x6 x7) (sD x1 dy x2)) ask)=(bZ (aM (sL t C x8 x9 x10 x11 x12) (sD x1 dy x2)) ask)
    ·obtain⟨c18,K18⟩:=K17
     refine hX.go [n_ 4 (f_ (bne_eq_false_iff_eq.2 h17))] ?_
     by_cases h18:(fV ask)=(fV ask)
     ·obtain⟨c19,K19⟩:=K18
      refine hX.go [n_ 4 (f_ (bne_eq_false_iff_eq.2 h18))] ?_
      by_cases h19:(zw (aM (sL t C x3 x4 x5 x6 x7) (sD x1 dy x2)) (sD x1 dy x2))=(zw (aM (sL t C x8 x9 x10 x11 x12) (sD x1 dy x2)) (sD x1 dy x2))
      ·have k:=K19
       exact hX.h 14 [n_ 4 (f_ (bne_eq_false_iff_eq.2 h19)),f_ (bne_eq_false_iff_eq.2 h9),h_ [.w]] [.ae 0, .ae 1, .ae 2, .ae 1003, .ae 1004, .ae 1005, .ae 1006, .ae 1007, .ae 1008, .ae 9, .ae 10, .ae 11, .ae 12, .ae 1013, .ae 14, .ae 1015, .ae 1016, .ae 1017, .ae 18, .ae 19, .ae 20, .ae 21, .ae 1022, .ae 23] k
      ·exact absurd c19 h19
     ·exact absurd c18 h18
    ·exact absurd c17 h17
   ·exact absurd c9 h9
 ·exact hX.e [f_ (df h0)]
theorem MN (x:Int):Ir (IntKind.wrap .i64 x):=by
 simp only[Ir,aj,IntKind.wrap,IntKind.signed,IntKind.bits]
 simp
 omega
theorem Cu {X:Cx} {t:cj} {C:Cl} {na:Nat} {pb:Nat→Bool} {dy mo:Nat→Int} {ask:Int} (hX:Fi X 3 (KC C na pb dy mo) (B true) []) (bn:1≤eA t C∧eA t C≤10000) (bk:uM t C≤10000) (ha:Ir t.a2) (hn:na≤12):
  ∀ (f j:Nat) {day op du fr ba it:Int},j+f=na→Ir op→Ok X (qq t C na pb dy mo ask day j op du fr ba it op du fr ba it):=by
 intro f
 induction f with
 |zero=>exact fun j _ _ _ _ _ _ hj _=>By hX fun q=>absurd q (by omega)
 |succ f ih=>
  intro j day op du fr ba it hj ho
  have e1:IntKind.wrap .i64 ((j:Int)+1)=((j+1:Nat):Int):=bG (by simp only[aj];omega)
  have b1:1≤eA t C∧eA t C≤100000:=by omega
  refine By hX fun q=> ?_
  rw[e1]
  generalize sD day dy j=n
  rw[Int.toNat_natCast]
  generalize mo j=m
  have lq: ∀ a b c d e,Fj (sL t C a b c d e) (sL t C a b c d e):=fun a b c d e=>⟨rfl,bn.2,bn.2,bk,by show eA t C-1≤10000;omega⟩
  have hp:Ir (jz (sL t C op du fr ba it) n m).op:=by
   show Ir (if _ then rS _ else _)
   split
   ·exact MN _
   ·exact ho
  exact⟨by omega,fun _=>⟨b1,ho,ha,b1,ho,ha,by simp,b1,hp,ha,b1,hp,ha,lq _ _ _ _ _,rfl,rfl,rfl,rfl,ih (j+1) (by omega) hp⟩,fun _=>⟨b1,ho,ha,b1.2,ho,ha,rfl,b1,ho,ha,b1,ho,ha,lq _ _ _ _ _,rfl,rfl,rfl,ih (j+1) (by omega) ho⟩⟩
theorem D6 (t:cj) (C:Cl) (na:Nat) (pb:Nat→Bool) (dy mo:Nat→Int) (ask:Int):S 3 [.agg [I t.a1,I t.a2,I t.a3,I t.a4,I t.a5,I t.a6,I t.a7,B t.a8,B t.a9,B t.ak,I t.ah,B (C.off 0),B (C.off 1),B (C.off 2),B (C.off 3),B (C.off 4),B (C.off 5),B (C.off 6), .sl 0 C.nr, .sl 1 C.nd, .sl 2 na,I ask]] (KC C na pb dy mo) (B true) []:=by
 refine ab.st fun X hX=>Gb hX fun h hn=> ?_
 have hm:=JO h (by decide)
 have bk:=IL (t:=t) (C:=C) hm.2.1
 refine⟨hm.2.1,hm.1,fun _=>rfl,fun q=> ?_⟩
 have c:=AX q
 have e1:eA t C=tN t:=if_pos q
 have hN:=kv c hm.2.1
 have hmon:=Gu c
 have hr:=EK c
 have bn:1≤eA t C∧eA t C≤10000:=by omega
 have bk':uM t C≤10000:=by omega
 have i2:Ir t.a2:=aT (by omega)
 have n2:na≤12:=by omega
 have k:=Cu (pb:=pb) (dy:=dy) (mo:=mo) (ask:=ask) hX bn bk' i2 n2 na 0 (day:=t.a5) (op:=t.a1) (du:=0) (fr:=(tR t C 0).1) (ba:=0) (it:=0) (by omega) (aT (by omega))
 exact⟨by omega,⟨rfl,show eA t C≤_ by omega,show eA t C≤_ by omega,show uM t C≤_ by omega,show eA t C-1≤_ by omega⟩,k⟩
end Go.Proofs.YtelidogcomffkaaGreatDoor
namespace Go.Proofs.YtelidogcomffkaaGreatDoor
open Go Go.Sx Go.Deep Go.ChangeShapes Go.WideShapes Go.ChangeAt Go.RowKit
theorem laidOut:laidOutB Tryz.prog=true:=by kernel_rfl
theorem own:ownKnob Tryz.prog.godebug=none:=by kernel_rfl
theorem Kn:Tryz.prog.globalNamed "demurrage/civil.lengths" =some 0:=by kernel_rfl
theorem Et:(Tryz.prog.globals[0]?).map (·.type)=some 188:=by kernel_rfl
theorem LP:Tryz.prog.cellsOf 188=13:=by kernel_rfl
theorem LQ:Tryz.prog.cellsOf 3=1:=by kernel_rfl
theorem LG:Tryz.prog.globalNamed "errors.errorType" =some 2:=by kernel_rfl
theorem Li:(Tryz.prog.cutTypes.find? (·.1== "internal/reflectlite.rtype")).map (·.2)=some 287:=by kernel_rfl
theorem IP:Tryz.prog.types.size=474-100:=by kernel_rfl
theorem IM:((List.range (474-100)).filter fun t=>Tryz.prog.rowNamed t [101,114,114,111,114])=[209]:=by kernel_rfl
theorem Hs:Tryz.prog.globalNamed "demurrage/actual.errNone" =some 5:=by kernel_rfl
theorem Er:Tryz.prog.globalNamed "demurrage/actual.errTurns" =some 6:=by kernel_rfl
theorem I7:(Tryz.prog.globals[5]?).map (·.type)=some 209:=by kernel_rfl
theorem Gi:(Tryz.prog.globals[6]?).map (·.type)=some 209:=by kernel_rfl
theorem BH (u:TypeId) (h:Tryz.prog.typeName? 3 u=some "*errors.errorString"):u=343:=
 typeName_ptr_named (nm:= "errors.errorString") (by rw[show "*" ++ "errors.errorString" = "*errors.errorString" by decide];kernel_rfl) (by kernel_rfl) (by decide) u (by rw[show "*" ++ "errors.errorString" = "*errors.errorString" by decide];exact h)
theorem Gx:Tryz.prog.cellsOf 9=1:=by kernel_rfl
theorem HB:Tryz.prog.cellsOf 363=1:=by kernel_rfl
theorem laidMet.tail {P:Program} {x:String×DataW Unit} {xs:List (String×DataW Unit)} {w:World} (h:laidMet P (x::xs) w):laidMet P xs w:=by
 obtain⟨ps,⟨g,t,cs,f,p,q,hg,ht,hv,hd,hq,rfl⟩,hnd,hr⟩:=h
 exact⟨q,hq,(List.nodup_append.1 hnd).2.1,fun b off hm=>hr b off (List.mem_append_right _ hm)⟩
section
variable {H:Type} {enc:TypeId×Value→H} {P:Program} {w:World} {base:Nat} {spare:Nat→Bool} {held:Bool}
theorem eR {b0:Nat} {u:TypeId} {k:IntKind} {x:Value} (hu:P.underlying u=some (.int k)) (h:Cell.okWide P w .any b0 u x): ∃ n,x= .int k n∧aj k n:=by
 unfold Cell.okWide at h
 rw[hu]at h
 simp only at h
 unfold Cell.ok at h
 rw[hu]at h
 cases x<;>simp only at h<;>first|exact h.elim|skip
 rename_i k' n
 obtain⟨rfl,h1,h2⟩:=h
 refine⟨n,rfl, ?_⟩
 cases k'<;>simp[IntKind.min,IntKind.max,IntKind.signed,IntKind.bits]at h1 h2<;>simp[aj]<;>omega
theorem dd {b0:Nat} {u:TypeId} {x:Value} (hu:P.underlying u=some .bool) (h:Cell.okWide P w .any b0 u x): ∃ b,x= .bool b:=by
 unfold Cell.okWide at h
 rw[hu]at h
 simp only at h
 unfold Cell.ok at h
 grind
theorem CD {b0 B:Nat} {u e:TypeId} {x:Value} {n:Nat} {y:DataW H×List MemPlace} (hu:P.underlying u=some (.slice e)) (he:P.underlying e=some (.int .i64)) (hc:P.cellsOf e=1) (h:Cell.okWide P w .any b0 u x)
  (ht:DataW.trod enc P w base spare held n u [x]=some y):
  ∃ (m:Nat) (g:Nat→Int) (d:Ad),x=den (fun _=>d) (.sl 0 m)∧bm (fun _=>d) B [some (.row false e m 1 (fun i=>[I (g i)]))] w:=by
 have hok: ∀ {d:Ad} {m:Nat} {g:Nat→Int},d.sz=1→m≤d.cap→(m=0∨ ∃ a,d.base=some a)→(∀ a,d.base=some a→a.spot=none)→(∀ a,d.base=some a→ ∀ i,i<m→w.cell? (a.add i)=some (.int .i64 (g i)))→
   bm (fun _=>d) B [some (.row false e m 1 (fun i=>[I (g i)]))] w:=by
  intro d m g h1 h2 h3 h4 h5
  refine⟨fun t v hv=> ?_,fun t t' v v' hv hv' hne ho=> ?_⟩
  ·cases t with
   |zero=>
    simp at hv;subst hv
    refine⟨h1,h2,⟨h3,h4⟩,fun i hi=>⟨rfl,rfl⟩,fun a ha i hi k v hk=> ?_,fun h=>by cases h⟩
    cases k with
    |zero=>
     simp at hk;subst hk
     have:=h5 a ha i hi
     have hsp:=h4 a ha
     obtain⟨b,o,s⟩:=a
     simp only at hsp
     subst hsp
     by_cases hi0:i=0<;>simpa[at_,Addr.add,den,hi0]using this
    |succ k=>simp at hk
   |succ t=>simp at hv
  grind
 rcases open_ints hu he hc ht with⟨h1, -⟩|⟨a,len,cap,zs,h1, -,h3, -,h5, -,h7, -⟩
 ·cases h1
  exact⟨0,fun _=>0,⟨none,0,1⟩,rfl,hok rfl (Nat.le_refl _) (.inl rfl) (fun a ha=>by cases ha) (fun a ha=>by cases ha)⟩
 ·cases h1
  have hsp:a.spot=none:=by
   unfold Cell.okWide at h
   rw[hu]at h
   simp only at h
   unfold Cell.ok at h
   rw[hu]at h
   exact h.2.2.2.1
  have hlen:len≤zs.length:=by rw[h5];split<;>omega
  refine⟨len,fun i=>zs.getD i 0,⟨some a,cap,1⟩,rfl,hok rfl h3 (.inr ⟨a,rfl⟩) (fun b hb=>by cases hb;exact hsp) (fun b hb i hi=> ?_)⟩
  grind
theorem zB {f:Func} {s:ChangeSpec} {apart fresh handsOn again:Bool} {W W':World} {args:Array Value} {v:Value} {ds gs:List (DataW H)} {before pa pv:List MemPlace}
  (hW:DataW.Whole enc P f.params.toList s.vars apart W args.toList ds gs before)
  (hres: ∀ (b:Nat) (sp:Nat→Bool) (hd:Bool),DataW.TrodAll enc P W' b sp hd f.resultTypes.toList (v.resultList f.resultTypes.size) (s.fn H (ds++gs)).results [])
  (hargs: ∀ sp:Nat→Bool,(∀ p∈before,sp p.block=true)→DataW.TrodAll enc P W' 0 sp true f.params.toList args.toList (s.fn H (ds++gs)).args pa)
  (hvars: ∀ sp:Nat→Bool,(∀ p∈before,sp p.block=true)→DataW.TrodVars enc P W' sp s.vars (s.fn H (ds++gs)).vars pv)
  (hps:before=pa++pv) (hk:W.keptBut W' (· ∈before)) (hfz: ∀ a:Addr,a.block<W.heap.size→W'.frozen? a=W.frozen? a)
  (hok: ∀ (j:Nat) (t:TypeId) (r:Value),f.resultTypes[j]? =some t→(v.resultList f.resultTypes.size)[j]? =some r→Value.okWide P W' .any 0 t r):
  s.post enc P f apart fresh handsOn again W args v W':=by
 have hold: ∀ p∈before,(fun b=>decide (b<W.heap.size)) p.block=true:=fun p hp=>by simpa using hW.lt p hp
 have hlt: ∀ p∈before,p.block<W.heap.size:=fun p hp=>hW.lt p hp
 refine⟨ds,gs,before,[],pa,pv,hW,hres _ _ _,hargs _ hold,hvars _ hold,World.keptBut_mono (fun p hp=>⟨hp, ?_⟩) hk,fun _=> ?_⟩
 ·simp_all
 ·obtain⟨_,_,_,_,_,hz,hn⟩:=hW
  refine⟨hok,_,_,([]++pa)++pv,⟨[]++pa,pv,trodAll_append (hargs _ (fun _ _=>rfl)) (hres _ _ _),hvars _ (fun _ _=>rfl),rfl, ?_, ?_⟩, ?_⟩
  ·intro b off hp
   have hp':MemPlace.cell b off∈before:=by rw[hps];simpa using hp
   rw[hfz _ (hlt _ hp')]
   exact hz b off hp'
  all_goals simp_all
end
section
variable {H:Type} {enc:TypeId×Value→H} {P:Program} {w:World} {base:Nat} {spare:Nat→Bool} {held:Bool}
theorem zE {b0:Nat} {t:TypeId} {fs:Array Field} {ts:List TypeId} {v:Value} (hs:P.underlying t=some (.struct fs))
  (hts:P.cellTypes P.depth t=some ts) (hC:P.cellsOf t=ts.length) (hv:Value.okWide P w .any b0 t v):
  ∃ cs:List Value,v= .agg cs.toArray∧cs.length=ts.length∧(∀ (i:Nat) (x:Value) (u:TypeId),cs[i]? =some x→ts[i]? =some u→Cell.okWide P w .any b0 u x):=by
 unfold Value.okWide at hv
 rw[hs]at hv
 obtain⟨cs,rfl,hsz,ts',h1,⟨n,h2⟩,h3⟩:=hv
 rw[hts]at h1;cases h1
 refine⟨cs.toList,by simp,by simp[hsz,hC],fun i x u hx hu'=> ?_⟩
 have hx':cs[i]? =some x:=by simpa using hx
 obtain⟨u',hu,hk⟩:=h3 i x hx'
 have hi:i<ts.length:=by rw[←hC,←hsz];exact(Array.getElem?_eq_some_iff.1 hx').1
 rw[Nat.mod_eq_of_lt hi,hu']at hu
 cases hu
 exact hk
theorem dA {t:TypeId} {fs:Array Field} {n:Nat} {cs:List Value} {x:DataW H×List MemPlace} (hs:P.underlying t=some (.struct fs)) (h:DataW.trod enc P w base spare held n t cs=some x) (i:Nat) {f:Field} {k:Nat} {ds:List Value}
  (hf:fs[i]? =some f) (hk:P.cellsOf f.type=k) (hd:(cs.drop f.offset).take k=ds): ∃ n y,DataW.trod enc P w base spare held n f.type ds=some y:=by
 obtain⟨xs,m, -, -,hlen,hxs,hfd⟩:=DataW.trod_struct hs h
 grind
theorem Aa {d:Ad} {B:Nat} {v:Vw} (h:bm (fun _=>d) B [some v] w) (hs: ∀ θ θ',aX θ B w d v→aX θ' B w d v): ∀ θ,aX θ B w d v:=fun θ=>hs _ θ (h.vw 0 v rfl)
theorem Ek {d:Ad} {B n:Nat} {e:TypeId} {g:Nat→Int} (θ θ':Th) (h:aX θ B w d (.row false e n 1 (fun i=>[I (g i)]))):aX θ' B w d (.row false e n 1 (fun i=>[I (g i)])):=by
 obtain⟨h1,h2,h3,h4,h5,h6⟩:=h
 refine⟨h1,h2,h3,h4,fun a ha i hi k v hk=> ?_,fun h=>by cases h⟩
 have:=h5 a ha i hi k v hk
 cases k with
 |zero=>simp at hk;subst hk;exact this
 |succ k=>simp at hk
end
section
variable {H:Type} {enc:TypeId×Value→H}
theorem oX {W W':World} (hbel:Below W.heap.size W W'): ∀ {ts:List TypeId} {vs:List Value} {ds:List (DataW H)} {p:List MemPlace},(∀ t∈ts,Tryz.prog.readableRec t=true∧t<Tryz.prog.types.size)→DataW.TrodAll enc Tryz.prog W 0 (fun _=>true) true ts vs ds p→
  (∀ x∈p,x.block<W.heap.size)→ ∀ sp:Nat→Bool,(∀ x∈p,sp x.block=true)→DataW.TrodAll enc Tryz.prog W' 0 sp true ts vs ds p
 |[],_,_,_,_,h,_,_,_=>by
  obtain⟨rfl,rfl,rfl⟩:=trodAll_nil h
  rfl
 |t::ts,_,_,_,hr,h,hlt,sp,hsp=>by
  obtain⟨v,vs',d,ds',p,q,rfl,rfl,rfl,h0,h1⟩:=trodAll_cons h
  obtain⟨r1,r2⟩:=hr t (.head _)
  exact trodAll_cons_mk (Go.WideElems.Trod_stays laidOut r1 r2 h0 (fun x hx=>hbel.same (hlt x (List.mem_append_left _ hx))) (fun x hx=>hsp x (List.mem_append_left _ hx)))
   (oX hbel (fun t ht=>hr t (.tail _ ht)) h1 (fun x hx=>hlt x (List.mem_append_right _ hx)) sp (fun x hx=>hsp x (List.mem_append_right _ hx)))
theorem uZ (G:World→Prop) {fid:FuncId} {f:Func} {b:TypeId} {s:ChangeSpec} (hr:f.resultTypes= #[b]) (hb:Tryz.prog.underlying b=some .bool) (hvars:s.vars=[])
  (hfn: ∀ (ds:List (DataW H)),ds.length=f.params.toList.length→s.fn H ds={results:=[.lit (.bool true)],args:=ds}) (hread: ∀ t∈f.params.toList,Tryz.prog.readableRec t=true∧t<Tryz.prog.types.size)
  (walk: ∀ (W:World) (base:Nat) (args:Array Value) (ds:List (DataW H)) (p:List MemPlace),G W→(∀ (j:Nat) t v,f.params[j]? =some t→args[j]? =some v→Value.okWide Tryz.prog W .any base t v)→DataW.TrodAll enc Tryz.prog W 0 (fun _=>true) true f.params.toList args.toList ds p→
   Calls Tryz.prog fid args W fun e W'=>Below W.heap.size W W'∧e= .returned (.bool true))
  (W:World) (base:Nat) (args:Array Value) (ds gs:List (DataW H)) (before:List MemPlace)
  (hval: ∀ (j:Nat) t v,f.params[j]? =some t→args[j]? =some v→Value.okWide Tryz.prog W .any base t v)
  (hW:DataW.Whole enc Tryz.prog f.params.toList s.vars false W args.toList ds gs before) (hG:G W):
  Calls Tryz.prog fid args W fun e W'=> ∃ v,e= .returned v∧s.post enc Tryz.prog f false true false false W args v W':=by
 have hW':=hW
 obtain⟨p,q,hA0,hV,rfl,hfz,hnd⟩:=hW
 have hA:DataW.TrodAll enc Tryz.prog W 0 (fun _=>true) true f.params.toList args.toList ds p:=hA0
 rw[hvars]at hV
 obtain⟨rfl,rfl⟩:=trodVars_none hV
 simp only[List.append_nil]at hW'
 refine(walk W base args ds p hG hval hA).mono fun e W' ⟨hbel,he⟩=> ?_
 subst he
 have hlt: ∀ x∈p,x.block<W.heap.size:=fun x hx=>by simpa using hW'.lt x hx
 have hlen:ds.length=f.params.toList.length:=(trodAll_length hA).2
 have hfn':s.fn H (ds++[])={results:=[.lit (.bool true)],args:=ds}:=by rw[List.append_nil];exact hfn ds hlen
 refine⟨_,rfl,zB (pa:=p) (pv:=[]) hW' (fun bb sp hd=> ?_) (fun sp hsp=> ?_) (fun _ _=> ?_) (by simp) ?_ ?_ (ok_one hr rfl (okWide_bool_mk hb _))⟩
 ·rw[hfn',hr]
  exact trodAll_mk1 (shut_bool hb _)
 ·grind [oX]
 ·rw[hfn',hvars]
  rfl
 ·exact hbel.frame _
 ·exact fun a ha=>hbel.frozen ha
end
theorem zh [Env] {f:FuncId} {args:List SV} {hp:List (Option Vw)} {θ:Th} {W:World} (h:ab Tryz.prog GL f args hp (B true) []) (hH:bm θ W.heap.size hp W) (hG:vr GL W):
  Calls Tryz.prog f (ax θ args).toArray W fun e W'=>Below W.heap.size W W'∧e= .returned (.bool true):=
 (h θ W hH hG).mono fun e W' ⟨hb,r,he,nw,hr⟩=>⟨hb,by rw[he,(hr θ (fun _ _=>rfl) (fun k hk=>absurd hk (Nat.not_lt_zero k))).1];rfl⟩
theorem LI:Tryz.pinned.checked.prog.mayEnter=true:=by kernel_rfl
theorem Jc:Tryz.pinned.checked.prog.stopsHeard=true:=by kernel_rfl
theorem Kq:mapsRowed Tryz.pinned.checked.prog=true:=by kernel_rfl
theorem LH:laidOutB Tryz.pinned.checked.prog=true:=by kernel_rfl
theorem Jb:(Rows.loanTellsRow.lifted==Tryz.pinned.checked.prog.liftsFinal)=true:=by kernel_rfl
theorem Ja:true=Tryz.pinned.checked.prog.looks []:=by kernel_rfl
theorem mainIs:Tryz.pinned.checked.prog.mainIs=some (Rows.loanTellsCard.stood.harness.1,Rows.loanTellsCard.stood.harness.2.toList):=by kernel_rfl
end Go.Proofs.YtelidogcomffkaaGreatDoor
namespace Go.Proofs.YtelidogcomffkaaGreatDoor
open Go Go.Sx Go.Deep Go.ChangeShapes Go.WideShapes Go.ChangeAt Go.RowKit
section
variable {H:Type} {enc:TypeId×Value→H} {P:Program} {w:World} {base:Nat} {spare:Nat→Bool} {held:Bool}
theorem sQ {u:TypeId} {n:Nat} {v:Value} {y:DataW H×List MemPlace} (hu:P.underlying u=some (.int .i64)) (h:DataW.trod enc P w base spare held n u [v]=some y): ∃ z,v= .int .i64 z:=by
 cases n with
 |zero=>simp[DataW.trod]at h
 |succ n=>
  unfold DataW.trod at h
  rw[hu]at h
  cases v<;>simp only at h<;>first|(cases h;done)|skip
  split at h
  ·rename_i c;exact⟨_,by rw[c.1]⟩
  ·cases h
end
end Go.Proofs.YtelidogcomffkaaGreatDoor
namespace Go.Proofs.YtelidogcomffkaaGreatDoor
open Go Go.Sx Go.Deep Go.ChangeShapes Go.WideShapes Go.ChangeAt Go.RowKit
theorem vc {H:Type} {enc:TypeId×Value→H} {P:Program} {w:World} {base:Nat} {sp:Nat→Bool} {held:Bool} {fuel:Nat} {t e:TypeId} {n:Nat} {cs:List Value} {ss:List (List UInt8)} {p:List MemPlace}
  (ht:P.underlying t=some (.array n e)) (he:P.underlying e=some .string) (hce:P.cellsOf e=1) (hct:P.cellsOf t=n)
  (h:DataW.trod enc P w base sp held fuel t cs=some (.agg (ss.map fun s=> .lit (.string s)),p)):cs=ss.map fun s=>Value.string ⟨s.toArray⟩:=by
 cases fuel with
 |zero=>simp[DataW.trod]at h
 |succ fuel=>
  simp only[DataW.trod,ht,hce,hct,Nat.mul_one]at h
  split at h
  ·rename_i hl
   obtain⟨xs,hm,hx⟩:=Option.map_eq_some_iff.1 h
   have hxs:xs.map (·.1)=ss.map fun s=>(DataW.lit (.string s):DataW H):=by
    simp_all
   have hxl:xs.length=n:=by simpa using Lib.mapM_length hm
   have hzl:ss.length=n:=by
    have:=congrArg List.length hxs
    simp at this
    omega
   apply List.ext_getElem?
   intro i
   by_cases hi:i<n
   ·obtain⟨b,hb,hf⟩:=Lib.mapM_at hm i i (by simp[hi])
    obtain⟨s,hc,rfl,_⟩:=DataW.trod_string he hf
    have h1:cs[i]? =some (.string s):=by
     have:=congrArg (·[0]?) hc
     grind
    have h2:(xs.map (·.1))[i]? =some (DataW.lit (.string s.data.toList):DataW H):=by simp[hb]
    simp_all
   simp_all
  ·cases h
theorem p8 {P:Program} {W:World} {name:String} (ss:List (List UInt8)) {rest:List (String×DataW Unit)} {g:Nat} {t e:TypeId} {n:Nat}
  (hg:P.globalNamed name=some g) (hty:(P.globals[g]?).map (·.type)=some t) (ht:P.underlying t=some (.array n e)) (he:P.underlying e=some .string) (hce:P.cellsOf e=1) (hct:P.cellsOf t=n)
  (h:laidMet P ((name, .agg (ss.map fun s=> .lit (.string s)))::rest) W) (i:Nat) (s:List UInt8) (hi:ss[i]? =some s):W.cell? ⟨g,i,none⟩=some (.string ⟨s.toArray⟩):=by
 obtain⟨ps,⟨g',t',cs,fuel,p,q,hg',ht',hvar,hd,_,_⟩,_⟩:=h
 obtain rfl:=Option.some.inj (hg.symm.trans hg')
 obtain rfl:=Option.some.inj (hty.symm.trans ht')
 have hc:=vc ht he hce hct hd
 have:=World.var?_cell hg hvar i
 rw[this,←Array.getElem?_toList,hc]
 simp[hi]
theorem Kl:Tryz.prog.globalNamed "demurrage/roll.names" =some 4:=by kernel_rfl
theorem I6:(Tryz.prog.globals[4]?).map (·.type)=some 283:=by kernel_rfl
theorem LF:Tryz.prog.globalNamed "demurrage/terms.names" =some 3:=by kernel_rfl
theorem Km:(Tryz.prog.globals[3]?).map (·.type)=some 282:=by kernel_rfl
theorem Es:Tryz.prog.globalNamed "demurrage/terms.errTerms" =some 1:=by kernel_rfl
theorem Gj:(Tryz.prog.globals[1]?).map (·.type)=some 209:=by kernel_rfl
theorem Kz:Tryz.prog.cellsOf 283=5:=by kernel_rfl
theorem KA:Tryz.prog.cellsOf 282=3:=by kernel_rfl
def Hq:List (String×DataW Unit):=[("demurrage/civil.lengths",Rows.laid_demurrage_civil_lengths),("errors.errorType",Rows.laid_errors_errorType),("demurrage/actual.errNone",Rows.laid_demurrage_actual_errNone),("demurrage/actual.errTurns",Rows.laid_demurrage_actual_errTurns),
 ("demurrage/roll.names",Rows.laid_demurrage_roll_names),("demurrage/terms.names",Rows.laid_demurrage_terms_names),("demurrage/terms.errTerms",Rows.laid_demurrage_terms_errTerms)]
theorem LC {W:World} (h:laidMetH Tryz.prog Hq W): ∃ E:dc,vr (@GL (@Ew E)) W:=by
 have h':laidMet Tryz.prog [("demurrage/civil.lengths",Rows.laid_demurrage_civil_lengths),("demurrage/actual.errNone",Rows.laid_demurrage_actual_errNone),("demurrage/actual.errTurns",Rows.laid_demurrage_actual_errTurns),
  ("demurrage/roll.names",Rows.laid_demurrage_roll_names),("demurrage/terms.names",Rows.laid_demurrage_terms_names),("demurrage/terms.errTerms",Rows.laid_demurrage_terms_errTerms)] W∧handlesMet Tryz.prog [("errors.errorType",Rows.laid_errors_errorType)] W:=h
 have hT:Lib.TabIs Tryz.prog W "demurrage/civil.lengths" .i64 [0,31,28,31,30,31,30,31,31,30,31,30,31]:=
  Lib.tabIs_of_head Kn Et Tryz.underlying188 Tryz.underlying3 LQ LP h'.1
 have hc: ∀ i,i<13→W.cell? ⟨0,i,none⟩=some (.int .i64 (lens i)):=fun i hi=>hT.cell Kn i hi
 have hE:W.cell? ⟨2,0,none⟩=some (.iface 287 (.agg #[.pointer (some ⟨9,209,none⟩)])):=by
  obtain⟨name,u,ty,e1,e2,e3,e4,e5⟩:=h'.2 _ (List.mem_singleton.2 rfl)
  have en:name=[101,114,114,111,114]:=(Option.some.inj e1).symm
  subst en
  obtain rfl:=Option.some.inj (Li.symm.trans e2)
  have hm:ty∈(List.range (474-100)).filter fun t=>Tryz.prog.rowNamed t [101,114,114,111,114]:=List.mem_filter.2 ⟨List.mem_range.2 (by rw[←IP];exact e3),e4⟩
  rw[IM]at hm
  obtain rfl:=List.mem_singleton.1 hm
  have hh:typeHandle Tryz.prog 209= .pointer (some ⟨9,209,none⟩):=by kernel_rfl
  rw[hh]at e5
  simpa using World.var?_cell LG e5 0
 obtain⟨a0,a1,s0,s1,c0,c1,t0,t1,hv0,hv1, -, -, -, -, -, -,hne,hb0,hb1⟩:=laid_sentinels2 (laidMet.tail h'.1) Hs I7 Er Gi Tryz.underlying209 BH Tryz.underlying343 Tryz.underlying363 rfl rfl Tryz.underlying9 HB Gx
 have h0:W.cell? ⟨5,0,none⟩=some (bK a0):=by simpa using World.var?_cell Hs hv0 0
 have h1:W.cell? ⟨6,0,none⟩=some (bK a1):=by simpa using World.var?_cell Er hv1 0
 have hlt: ∀ {b o:Nat} {v:Value},W.cell? ⟨b,o,none⟩=some v→b<W.heap.size:=fun h=>World.block_lt_of_cell? W _ h
 have one: ∀ {g:Nat} {v:Value},W.cell? ⟨g,0,none⟩=some v→ ∀ θ,eC θ W ⟨g,0,none⟩ 0 [.val v]:=fun hc θ k u hk=>by
  cases k with
  |zero=>simp at hk;subst hk;simpa[at_,den]using hc
  |succ k=>simp at hk
 have m3:=laidMet.tail (laidMet.tail (laidMet.tail h'.1))
 have m4:=laidMet.tail m3
 have hr:=p8 (t:=283) (e:=9) [[110,111,110,101],[102,111,108,108,111,119,105,110,103],[109,111,100,102,111,108,108,111,119,105,110,103],[112,114,101,99,101,100,105,110,103],[109,111,100,112,114,101,99,101,100,105,110,103]] Kl I6 Tryz.underlying283 Tryz.underlying9 Gx Kz m3
 have ht:=p8 (t:=282) (e:=9) [[98,117,108,108,101,116],[101,113,117,97,108],[108,101,118,101,108]] LF Km Tryz.underlying282 Tryz.underlying9 Gx KA m4
 obtain⟨a2,s2,hv2, -⟩:=laid_sentinel (laidMet.tail m4) Es Gj Tryz.underlying209 BH Tryz.underlying343 Tryz.underlying363 rfl rfl Tryz.underlying9 HB Gx
 have h2:W.cell? ⟨1,0,none⟩=some (bK a2):=by simpa using World.var?_cell Es hv2 0
 refine⟨⟨a0,a1,hne,a2⟩,fun g v hm=> ?_⟩
 unfold GL Ew at hm
 simp only[List.mem_append,List.mem_cons,List.not_mem_nil,or_false,false_or,Prod.mk.injEq]at hm
 rcases hm with(⟨rfl,rfl⟩|⟨rfl,rfl⟩|⟨rfl,rfl⟩|⟨rfl,rfl⟩)|(⟨rfl,rfl⟩|⟨rfl,rfl⟩|⟨rfl,rfl⟩)|⟨rfl,rfl⟩|⟨rfl,rfl⟩
 ·refine⟨hlt (hc 0 (by omega)),fun θ i hi=>⟨rfl,fun k v hk=> ?_⟩⟩
  cases k with
  |zero=>
   simp at hk;subst hk
   have:=hc i hi
   simpa[at_,den]using this
  |succ k=>simp at hk
 ·grind
 ·grind
 ·grind
 ·grind
 ·refine⟨hlt (ht 0 _ rfl),fun θ i hi=>⟨rfl,fun k v hk=> ?_⟩⟩
  cases k with
  |zero=>
   simp at hk;subst hk
   match i,hi with
   |0,_=>simpa[at_,den,JJ]using ht 0 _ rfl
   |1,_=>simpa[at_,den,JJ]using ht 1 _ rfl
   |2,_=>simpa[at_,den,JJ]using ht 2 _ rfl
  |succ k=>simp at hk
 ·refine⟨hlt (hr 0 _ rfl),fun θ i hi=>⟨rfl,fun k v hk=> ?_⟩⟩
  cases k with
  |zero=>
   simp at hk;subst hk
   match i,hi with
   |0,_=>simpa[at_,den,zn]using hr 0 _ rfl
   |1,_=>simpa[at_,den,zn]using hr 1 _ rfl
   |2,_=>simpa[at_,den,zn]using hr 2 _ rfl
   |3,_=>simpa[at_,den,zn]using hr 3 _ rfl
   |4,_=>simpa[at_,den,zn]using hr 4 _ rfl
  |succ k=>simp at hk
 ·exact⟨(Array.getElem?_eq_some_iff.1 hb0).1,fun θ=>⟨fun k v hk=>by simp at hk,fun _=>⟨_,_,hb0⟩⟩⟩
 ·exact⟨(Array.getElem?_eq_some_iff.1 hb1).1,fun θ=>⟨fun k v hk=>by simp at hk,fun _=>⟨_,_,hb1⟩⟩⟩
section
variable {H:Type} {enc:TypeId×Value→H}
theorem uY {fid:FuncId} {f:Func} {b:TypeId} {s:ChangeSpec} (hr:f.resultTypes= #[b]) (hb:Tryz.prog.underlying b=some .bool) (hvars:s.vars=[])
  (hfn: ∀ (ds:List (DataW H)),ds.length=f.params.toList.length→s.fn H ds={results:=[.lit (.bool true)],args:=ds}) (hread: ∀ t∈f.params.toList,Tryz.prog.readableRec t=true∧t<Tryz.prog.types.size)
  (walk: ∀ (E:dc) (W:World) (base:Nat) (args:Array Value) (ds:List (DataW H)) (p:List MemPlace),vr (@GL (@Ew E)) W→(∀ (j:Nat) t v,f.params[j]? =some t→args[j]? =some v→Value.okWide Tryz.prog W .any base t v)→DataW.TrodAll enc Tryz.prog W 0 (fun _=>true) true f.params.toList args.toList ds p→
   Calls Tryz.prog fid args W fun e W'=>Below W.heap.size W W'∧e= .returned (.bool true))
  (W:World) (base:Nat) (args:Array Value) (ds gs:List (DataW H)) (before:List MemPlace)
  (hval: ∀ (j:Nat) t v,f.params[j]? =some t→args[j]? =some v→Value.okWide Tryz.prog W .any base t v)
  (hW:DataW.Whole enc Tryz.prog f.params.toList s.vars false W args.toList ds gs before) (hL:laidMetH Tryz.prog Hq W):
  Calls Tryz.prog fid args W fun e W'=> ∃ v,e= .returned v∧s.post enc Tryz.prog f false true false false W args v W':=
 uZ (fun W=> ∃ E:dc,vr (@GL (@Ew E)) W) hr hb hvars hfn hread (fun W base args ds p ⟨E,hG⟩=>walk E W base args ds p hG) W base args ds gs before hval hW (LC hL)
end
noncomputable def pG (os:Os):World:=
 let w0:=World.holding Tryz.prog os ⟨#[], #[],[]⟩
 let lay (g:Nat) (v:Array Value) (h:Array Obj):Array Obj:=h.modify g fun
  | .cells _ t frozen=> .cells v t frozen
  |o=>o
 let h1:=lay 5 #[.iface 343 (.pointer (some ⟨w0.heap.size,0,none⟩))] (lay 6 #[.iface 343 (.pointer (some ⟨w0.heap.size+1,0,none⟩))] w0.heap)
 let h2:=lay 0 #[.int .i64 0, .int .i64 31, .int .i64 28, .int .i64 31, .int .i64 30, .int .i64 31, .int .i64 30, .int .i64 31, .int .i64 31, .int .i64 30, .int .i64 31, .int .i64 30, .int .i64 31] (lay 2 #[.iface 287 (.agg #[.pointer (some ⟨9,209,none⟩)])] h1)
 let h2b:=lay 4 #[.string ⟨#[110,111,110,101]⟩, .string ⟨#[102,111,108,108,111,119,105,110,103]⟩, .string ⟨#[109,111,100,102,111,108,108,111,119,105,110,103]⟩, .string ⟨#[112,114,101,99,101,100,105,110,103]⟩, .string ⟨#[109,111,100,112,114,101,99,101,100,105,110,103]⟩] (lay 3 #[.string ⟨#[98,117,108,108,101,116]⟩, .string ⟨#[101,113,117,97,108]⟩, .string ⟨#[108,101,118,101,108]⟩] (lay 1 #[.iface 343 (.pointer (some ⟨w0.heap.size+2,0,none⟩))] h2))
 let h3:=h2b.push (.cells #[.string ⟨#[110,111,32,100,97,121]⟩] 363)
 let h4:=h3.push (.cells #[.string ⟨#[100,97,121,115,32,116,104,101,32,119,114,111,110,103,32,119,97,121,32,114,111,117,110,100]⟩] 363)
 let h5:=h4.push (.cells #[.string ⟨#[116,101,114,109,115,32,116,104,97,116,32,109,97,121,32,110,111,116,32,98,101]⟩] 363)
 {w0 with heap:=h5}
end Go.Proofs.YtelidogcomffkaaGreatDoor
namespace Go.Proofs.YtelidogcomffkaaGreatDoor
open Go Go.Sx Go.Deep Go.ChangeShapes Go.WideShapes Go.ChangeAt Go.RowKit
section
variable {H:Type} {enc:TypeId×Value→H} {P:Program} {w:World} {base:Nat} {spare:Nat→Bool} {held:Bool}
def Bn (w:World) (a:Addr):Int:=match w.cell? a with
 |some (.int _ z)=>z
 |_=>0
theorem CC {b0 B:Nat} {u e:TypeId} {fs:Array Field} {K:Nat} {x:Value} {n:Nat} {y:DataW H×List MemPlace} (hu:P.underlying u=some (.slice e)) (he:P.underlying e=some (.struct fs)) (ce:P.cellsOf e=K)
  (hF: ∀ j,j<K→ ∃ f,fs[j]? =some f∧f.offset=j∧P.cellsOf f.type=1∧P.underlying f.type=some (.int .i64)) (h:Cell.okWide P w .any b0 u x)
  (ht:DataW.trod enc P w base spare held n u [x]=some y):
  ∃ (m:Nat) (g:Nat→Nat→Int) (d:Ad),x=den (fun _=>d) (.sl 0 m)∧bm (fun _=>d) B [some (.row false e m K (fun i=>(List.range K).map fun j=>I (g j i)))] w:=by
 have hok: ∀ {d:Ad} {m:Nat} {g:Nat→Nat→Int},d.sz=K→m≤d.cap→(m=0∨ ∃ a,d.base=some a)→(∀ a,d.base=some a→a.spot=none)→(∀ a,d.base=some a→ ∀ i,i<m→ ∀ j,j<K→w.cell? (at_ a (i*K+j))=some (.int .i64 (g j i)))→
   bm (fun _=>d) B [some (.row false e m K (fun i=>(List.range K).map fun j=>I (g j i)))] w:=by
  intro d m g h1 h2 h3 h4 h5
  refine⟨fun t v hv=> ?_,fun t t' v v' hv hv' hne ho=> ?_⟩
  ·cases t with
   |zero=>
    simp at hv;subst hv
    refine⟨h1,h2,⟨h3,h4⟩,fun i hi=>⟨by simp, ?_⟩,fun a ha i hi k v hk=> ?_,fun h=>by cases h⟩
    ·rw[List.all_eq_true]
     intro q hq
     obtain⟨j, -,rfl⟩:=List.mem_map.1 hq
     rfl
    ·have hkk:k<K:=by
      have:=(List.getElem?_eq_some_iff.1 hk).1
      simpa using this
     have hv:v=I (g k i):=by
      rw[List.getElem?_map,List.getElem?_range hkk]at hk
      exact(Option.some.inj hk).symm
     subst hv
     exact h5 a ha i hi k hkk
   |succ t=>simp at hv
  ·cases t with
   |zero=>simp at hv;subst hv;cases ho
   |succ t=>simp at hv
 rcases open_slice hu ht with⟨h1, -⟩|⟨a,len,cap,m,n',D,Pl,h1, -,h3, -,h5, -,h7⟩
 ·cases h1
  exact⟨0,fun _ _=>0,⟨none,0,K⟩,rfl,hok rfl (Nat.le_refl _) (.inl rfl) (fun a ha=>by cases ha) (fun a ha=>by cases ha)⟩
 ·cases h1
  have hsp:a.spot=none:=by
   unfold Cell.okWide at h
   rw[hu]at h
   simp only at h
   unfold Cell.ok at h
   rw[hu]at h
   exact h.2.2.2.1
  have hlen:len≤m:=by rw[h5];split<;>omega
  have hat: ∀ j,a.add j=at_ a j:=by
   intro j
   obtain⟨b,o,s⟩:=a
   simp only at hsp
   subst hsp
   by_cases hi0:j=0<;>simp[at_,Addr.add,hi0]
  have key: ∀ i,i<m→ ∀ j,j<K→ ∃ z,w.cell? (at_ a (i*K+j))=some (.int .i64 z):=by
   intro i hi j hj
   obtain⟨cs',e1,e2⟩:=h7 i hi
   rw[ce]at e1
   obtain⟨_,hl,hc⟩:=World.cells?_some e1
   obtain⟨f,f1,f2,f3,f4⟩:=hF j hj
   have hj2:j<cs'.length:=by rw[hl];exact hj
   obtain⟨n2,y2,t2⟩:=dA he e2 j f1 f3 (ds:=[cs'[j]]) (by rw[f2,List.drop_eq_getElem_cons hj2];rfl)
   obtain⟨z,hz⟩:=sQ f4 t2
   have hc2:=hc j (by omega)
   rw[add_add]at hc2
   refine⟨z, ?_⟩
   rw[←hat,hc2,List.getElem?_eq_getElem hj2,hz]
  refine⟨len,fun j i=>Bn w (at_ a (i*K+j)),⟨some a,cap,K⟩,rfl,hok rfl h3 (.inr ⟨a,rfl⟩) (fun b hb=>by cases hb;exact hsp) (fun b hb i hi j hj=> ?_)⟩
  cases hb
  obtain⟨z,hz⟩:=key i (by omega) j hj
  unfold Bn
  rw[hz]
theorem AB {b0 B:Nat} {x:Value} {n:Nat} {y:DataW H×List MemPlace} (h:Cell.okWide Tryz.prog w .any b0 25 x)
  (ht:DataW.trod enc Tryz.prog w base spare held n 25 [x]=some y):
  ∃ (m:Nat) (g:Nat→Nat→Int) (d:Ad),x=den (fun _=>d) (.sl 0 m)∧bm (fun _=>d) B [some (.row false 109 m 8 (fun i=>[I (g 0 i),I (g 1 i),I (g 2 i),I (g 3 i),I (g 4 i),I (g 5 i),I (g 6 i),I (g 7 i)]))] w:=
 CC (K:=8) Tryz.underlying25 Tryz.underlying109 (by kernel_rfl) (fun j hj=>by
  match j,hj with
  |0,_=>exact⟨_,rfl,rfl,by kernel_rfl,Tryz.underlying3⟩
  |1,_=>exact⟨_,rfl,rfl,by kernel_rfl,Tryz.underlying3⟩
  |2,_=>exact⟨_,rfl,rfl,by kernel_rfl,Tryz.underlying3⟩
  |3,_=>exact⟨_,rfl,rfl,by kernel_rfl,Tryz.underlying3⟩
  |4,_=>exact⟨_,rfl,rfl,by kernel_rfl,Tryz.underlying3⟩
  |5,_=>exact⟨_,rfl,rfl,by kernel_rfl,Tryz.underlying3⟩
  |6,_=>exact⟨_,rfl,rfl,by kernel_rfl,Tryz.underlying3⟩
  |7,_=>exact⟨_,rfl,rfl,by kernel_rfl,Tryz.underlying3⟩
  |j+8,hj=>omega) h ht
theorem Cc {d:Ad} {B n:Nat} {e:TypeId} {g:Nat→Nat→Int} (θ θ':Th) (h:aX θ B w d (.row false e n 8 (fun i=>[I (g 0 i),I (g 1 i),I (g 2 i),I (g 3 i),I (g 4 i),I (g 5 i),I (g 6 i),I (g 7 i)]))):aX θ' B w d (.row false e n 8 (fun i=>[I (g 0 i),I (g 1 i),I (g 2 i),I (g 3 i),I (g 4 i),I (g 5 i),I (g 6 i),I (g 7 i)])):=
 h.sc (n:=0) (fun t ht=>absurd ht (Nat.not_lt_zero _)) (fun i=>rfl)
end
end Go.Proofs.YtelidogcomffkaaGreatDoor
namespace Go.Proofs.YtelidogcomffkaaGreatDoor
open Go Go.Sx Go.Deep Go.ChangeShapes Go.WideShapes Go.ChangeAt Go.RowKit
section
variable {H:Type} {enc:TypeId×Value→H} {P:Program} {w:World} {base:Nat} {spare:Nat→Bool} {held:Bool}
def HD (w:World) (a:Addr):Bool:=match w.cell? a with
 |some (.bool b)=>b
 |_=>false
theorem trod_bool {u:TypeId} {n:Nat} {v:Value} {y:DataW H×List MemPlace} (hu:P.underlying u=some .bool) (h:DataW.trod enc P w base spare held n u [v]=some y): ∃ b,v= .bool b:=by
 cases n with
 |zero=>simp[DataW.trod]at h
 |succ n=>
  unfold DataW.trod at h
  rw[hu]at h
  cases v<;>simp only at h<;>first|(cases h;done)|exact⟨_,rfl⟩
theorem EL {b0 B:Nat} {u e:TypeId} {fs:Array Field} {K:Nat} (bl:Nat→Bool) {x:Value} {n:Nat} {y:DataW H×List MemPlace} (hu:P.underlying u=some (.slice e)) (ce:P.cellsOf e=K)
  (hL: ∀ (n:Nat) (cs:List Value) (y:DataW H×List MemPlace),cs.length=K→DataW.trod enc P w base spare held n e cs=some y→ ∀ (j:Nat) (hj:j<cs.length),if bl j=true then ∃ b,cs[j]= .bool b else ∃ z,cs[j]= .int .i64 z) (h:Cell.okWide P w .any b0 u x)
  (ht:DataW.trod enc P w base spare held n u [x]=some y):
  ∃ (m:Nat) (p:Nat→Nat→Bool) (g:Nat→Nat→Int) (d:Ad),x=den (fun _=>d) (.sl 0 m)∧bm (fun _=>d) B [some (.row false e m K (fun i=>(List.range K).map fun j=>if bl j=true then Go.Sx.B (p j i)else I (g j i)))] w:=by
 have hok: ∀ {d:Ad} {m:Nat} {p:Nat→Nat→Bool} {g:Nat→Nat→Int},d.sz=K→m≤d.cap→(m=0∨ ∃ a,d.base=some a)→(∀ a,d.base=some a→a.spot=none)→(∀ a,d.base=some a→ ∀ i,i<m→ ∀ j,j<K→w.cell? (at_ a (i*K+j))=some (if bl j=true then .bool (p j i)else .int .i64 (g j i)))→
   bm (fun _=>d) B [some (.row false e m K (fun i=>(List.range K).map fun j=>if bl j=true then Go.Sx.B (p j i)else I (g j i)))] w:=by
  intro d m p g h1 h2 h3 h4 h5
  refine⟨fun t v hv=> ?_,fun t t' v v' hv hv' hne ho=> ?_⟩
  ·cases t with
   |zero=>
    simp at hv;subst hv
    refine⟨h1,h2,⟨h3,h4⟩,fun i hi=>⟨by simp, ?_⟩,fun a ha i hi k v hk=> ?_,fun h=>by cases h⟩
    ·rw[List.all_eq_true]
     intro q hq
     obtain⟨j, -,rfl⟩:=List.mem_map.1 hq
     split<;>rfl
    ·have hkk:k<K:=by
      have:=(List.getElem?_eq_some_iff.1 hk).1
      simpa using this
     have hv:v=if bl k=true then Go.Sx.B (p k i)else I (g k i):=by
      rw[List.getElem?_map,List.getElem?_range hkk]at hk
      exact(Option.some.inj hk).symm
     subst hv
     rw[h5 a ha i hi k hkk]
     split<;>rfl
   |succ t=>simp at hv
  ·cases t with
   |zero=>simp at hv;subst hv;cases ho
   |succ t=>simp at hv
 rcases open_slice hu ht with⟨h1, -⟩|⟨a,len,cap,m,n',D,Pl,h1, -,h3, -,h5, -,h7⟩
 ·cases h1
  exact⟨0,fun _ _=>false,fun _ _=>0,⟨none,0,K⟩,rfl,hok rfl (Nat.le_refl _) (.inl rfl) (fun a ha=>by cases ha) (fun a ha=>by cases ha)⟩
 ·cases h1
  have hsp:a.spot=none:=by
   unfold Cell.okWide at h
   rw[hu]at h
   simp only at h
   unfold Cell.ok at h
   rw[hu]at h
   exact h.2.2.2.1
  have hlen:len≤m:=by rw[h5];split<;>omega
  have hat: ∀ j,a.add j=at_ a j:=by
   intro j
   obtain⟨b,o,s⟩:=a
   simp only at hsp
   subst hsp
   by_cases hi0:j=0<;>simp[at_,Addr.add,hi0]
  refine⟨len,fun j i=>HD w (at_ a (i*K+j)),fun j i=>Bn w (at_ a (i*K+j)),⟨some a,cap,K⟩,rfl,hok rfl h3 (.inr ⟨a,rfl⟩) (fun b hb=>by cases hb;exact hsp) (fun b hb i hi j hj=> ?_)⟩
  cases hb
  obtain⟨cs',e1,e2⟩:=h7 i (by omega)
  rw[ce]at e1
  obtain⟨_,hl,hc⟩:=World.cells?_some e1
  have hj2:j<cs'.length:=by rw[hl];exact hj
  have hc2:=hc j (by omega)
  rw[add_add,hat,List.getElem?_eq_getElem hj2]at hc2
  have hz:=hL n' cs' _ hl e2 j hj2
  unfold HD Bn
  rw[hc2]
  by_cases c:bl j=true
  ·rw[if_pos c]at hz⊢
   obtain⟨b,hb⟩:=hz
   rw[hb]
  ·rw[if_neg c]at hz⊢
   obtain⟨z,hb⟩:=hz
   rw[hb]
theorem CE {b0 B:Nat} {x:Value} {n:Nat} {y:DataW H×List MemPlace} (h:Cell.okWide Tryz.prog w .any b0 29 x)
  (ht:DataW.trod enc Tryz.prog w base spare held n 29 [x]=some y):
  ∃ (m:Nat) (p:Nat→Nat→Bool) (g:Nat→Nat→Int) (d:Ad),x=den (fun _=>d) (.sl 0 m)∧bm (fun _=>d) B [some (.row false 48 m 3 (fun i=>[Go.Sx.B (p 0 i),I (g 1 i),I (g 2 i)]))] w:=
 EL (fs:= #[]) (K:=3) (fun j=>j==0) Tryz.underlying29 (by kernel_rfl) (fun n cs y hl t j hj=>by
  match cs,hl with
  |[c0,c1,c2],_=>
   match j,hj with
   |0,_=>obtain⟨n2,y2,t2⟩:=dA Tryz.underlying48 t 0 (k:=1) rfl (by kernel_rfl) (ds:=[c0]) rfl;exact trod_bool Tryz.underlying4 t2
   |1,_=>obtain⟨n2,y2,t2⟩:=dA Tryz.underlying48 t 1 (k:=1) rfl (by kernel_rfl) (ds:=[c1]) rfl;exact sQ Tryz.underlying3 t2
   |2,_=>obtain⟨n2,y2,t2⟩:=dA Tryz.underlying48 t 2 (k:=1) rfl (by kernel_rfl) (ds:=[c2]) rfl;exact sQ Tryz.underlying3 t2
   |j+3,hj=>exact absurd hj (by simp)) h ht
theorem Ff {d:Ad} {B n:Nat} {e:TypeId} {p:Nat→Nat→Bool} {g:Nat→Nat→Int} (θ θ':Th) (h:aX θ B w d (.row false e n 3 (fun i=>[Go.Sx.B (p 0 i),I (g 1 i),I (g 2 i)]))):aX θ' B w d (.row false e n 3 (fun i=>[Go.Sx.B (p 0 i),I (g 1 i),I (g 2 i)])):=
 h.sc (n:=0) (fun t ht=>absurd ht (Nat.not_lt_zero _)) (fun i=>rfl)
theorem El {d d' d'':Ad} {B:Nat} {v v' v'':Vw} (ho:v.own=false) (ho':v'.own=false) (ho'':v''.own=false) (hv: ∀ θ,aX θ B w d v) (hv': ∀ θ,aX θ B w d' v') (hv'': ∀ θ,aX θ B w d'' v''):
  bm (fun t=>if t=0 then d else if t=1 then d' else d'') B [some v,some v',some v''] w:=by
 refine⟨fun t x hx=> ?_,fun t t' x x' hx hx' hne hox=> ?_⟩
 ·match t,hx with
  |0,hx=>simp at hx;subst hx;exact hv _
  |1,hx=>simp at hx;subst hx;exact hv' _
  |2,hx=>simp at hx;subst hx;exact hv'' _
  |t+3,hx=>simp at hx
 ·match t,hx with
  |0,hx=>simp at hx;subst hx;rw[ho]at hox;cases hox
  |1,hx=>simp at hx;subst hx;rw[ho']at hox;cases hox
  |2,hx=>simp at hx;subst hx;rw[ho'']at hox;cases hox
  |t+3,hx=>simp at hx
end
end Go.Proofs.YtelidogcomffkaaGreatDoor
namespace Go.Proofs.YtelidogcomffkaaGreatDoor.loanTells
open Go Go.Sx Go.Deep Go.ChangeShapes Go.WideShapes Go.ChangeAt Go.RowKit
theorem walk {H:Type} {enc:TypeId×Value→H} (E:dc) (W:World) (base:Nat) (args:Array Value) (ds:List (DataW H)) (p:List MemPlace) (hG:vr (@GL (@Ew E)) W) (hv: ∀ (j:Nat) t v,Tryz.f3.params[j]? =some t→args[j]? =some v→Value.okWide Tryz.prog W .any base t v) (hA:DataW.TrodAll enc Tryz.prog W 0 (fun _=>true) true Tryz.f3.params.toList args.toList ds p):
  Calls Tryz.prog 3 args W fun e W'=>Below W.heap.size W W'∧e= .returned (.bool true):=by
 rw[Tryz.params3]at hv hA
 obtain⟨v0,d0,rfl,rfl,t0⟩:=trodAll_one hA
 obtain⟨cs0,rfl,hl0,h0⟩:=zE Tryz.underlying31 (ts:=[3,3,3,3,3,3,3,4,4,4,3,4,4,4,4,4,4,4,25,26,29,3]) (by kernel_rfl) (by kernel_rfl) (hv 0 _ _ rfl rfl)
 obtain⟨c0_0,c0_1,c0_2,c0_3,c0_4,c0_5,c0_6,c0_7,c0_8,c0_9,c0_10,c0_11,c0_12,c0_13,c0_14,c0_15,c0_16,c0_17,c0_18,c0_19,c0_20,c0_21,rfl⟩: ∃ c0_0 c0_1 c0_2 c0_3 c0_4 c0_5 c0_6 c0_7 c0_8 c0_9 c0_10 c0_11 c0_12 c0_13 c0_14 c0_15 c0_16 c0_17 c0_18 c0_19 c0_20 c0_21,cs0=[c0_0,c0_1,c0_2,c0_3,c0_4,c0_5,c0_6,c0_7,c0_8,c0_9,c0_10,c0_11,c0_12,c0_13,c0_14,c0_15,c0_16,c0_17,c0_18,c0_19,c0_20,c0_21]:=by
  match cs0,hl0 with
  |[c0_0,c0_1,c0_2,c0_3,c0_4,c0_5,c0_6,c0_7,c0_8,c0_9,c0_10,c0_11,c0_12,c0_13,c0_14,c0_15,c0_16,c0_17,c0_18,c0_19,c0_20,c0_21],_=>exact⟨c0_0,c0_1,c0_2,c0_3,c0_4,c0_5,c0_6,c0_7,c0_8,c0_9,c0_10,c0_11,c0_12,c0_13,c0_14,c0_15,c0_16,c0_17,c0_18,c0_19,c0_20,c0_21,rfl⟩
 obtain⟨m0,tr0⟩:=t0
 obtain⟨a0,rfl,i0⟩:=eR Tryz.underlying3 (h0 0 _ _ rfl rfl)
 obtain⟨a1,rfl,i1⟩:=eR Tryz.underlying3 (h0 1 _ _ rfl rfl)
 obtain⟨a2,rfl,i2⟩:=eR Tryz.underlying3 (h0 2 _ _ rfl rfl)
 obtain⟨a3,rfl,i3⟩:=eR Tryz.underlying3 (h0 3 _ _ rfl rfl)
 obtain⟨a4,rfl,i4⟩:=eR Tryz.underlying3 (h0 4 _ _ rfl rfl)
 obtain⟨a5,rfl,i5⟩:=eR Tryz.underlying3 (h0 5 _ _ rfl rfl)
 obtain⟨a6,rfl,i6⟩:=eR Tryz.underlying3 (h0 6 _ _ rfl rfl)
 obtain⟨a7,rfl⟩:=dd Tryz.underlying4 (h0 7 _ _ rfl rfl)
 obtain⟨a8,rfl⟩:=dd Tryz.underlying4 (h0 8 _ _ rfl rfl)
 obtain⟨a9,rfl⟩:=dd Tryz.underlying4 (h0 9 _ _ rfl rfl)
 obtain⟨ak,rfl,i10⟩:=eR Tryz.underlying3 (h0 10 _ _ rfl rfl)
 obtain⟨_,_,s11⟩:=dA Tryz.underlying31 tr0 1 (k:=9) (ds:=[c0_11,c0_12,c0_13,c0_14,c0_15,c0_16,c0_17,c0_18,c0_19]) rfl (by kernel_rfl) rfl
 obtain⟨a12,rfl⟩:=dd Tryz.underlying4 (h0 11 _ _ rfl rfl)
 obtain⟨a13,rfl⟩:=dd Tryz.underlying4 (h0 12 _ _ rfl rfl)
 obtain⟨a14,rfl⟩:=dd Tryz.underlying4 (h0 13 _ _ rfl rfl)
 obtain⟨a15,rfl⟩:=dd Tryz.underlying4 (h0 14 _ _ rfl rfl)
 obtain⟨a16,rfl⟩:=dd Tryz.underlying4 (h0 15 _ _ rfl rfl)
 obtain⟨a17,rfl⟩:=dd Tryz.underlying4 (h0 16 _ _ rfl rfl)
 obtain⟨a18,rfl⟩:=dd Tryz.underlying4 (h0 17 _ _ rfl rfl)
 obtain⟨_,_,s19⟩:=dA Tryz.underlying28 s11 1 (k:=1) (ds:=[c0_18]) rfl (by kernel_rfl) rfl
 obtain⟨n19,g19,e19,rfl,H19⟩:=AB (B:=W.heap.size) (h0 18 _ _ rfl rfl) s19
 obtain⟨_,_,s20⟩:=dA Tryz.underlying28 s11 2 (k:=1) (ds:=[c0_19]) rfl (by kernel_rfl) rfl
 obtain⟨n20,g20,e20,rfl,H20⟩:=CD (B:=W.heap.size) Tryz.underlying26 Tryz.underlying3 (by kernel_rfl) (h0 19 _ _ rfl rfl) s20
 obtain⟨_,_,s21⟩:=dA Tryz.underlying31 tr0 2 (k:=1) (ds:=[c0_20]) rfl (by kernel_rfl) rfl
 obtain⟨n21,p21,g21,e21,rfl,H21⟩:=CE (B:=W.heap.size) (h0 20 _ _ rfl rfl) s21
 obtain⟨a22,rfl,i22⟩:=eR Tryz.underlying3 (h0 21 _ _ rfl rfl)
 exact zh (θ:=fun t=>if t=0 then e19 else if t=1 then e20 else e21) (args:=[.agg [I a0,I a1,I a2,I a3,I a4,I a5,I a6,B a7,B a8,B a9,I ak,B a12,B a13,B a14,B a15,B a16,B a17,B a18, .sl 0 n19, .sl 1 n20, .sl 2 n21,I a22]]) (D6 ⟨a0,a1,a2,a3,a4,a5,a6,a7,a8,a9,ak⟩ ⟨fun i=>[a12,a13,a14,a15,a16,a17,a18].getD i false,n19,fun i=>⟨g19 0 i,g19 1 i,g19 2 i,g19 3 i,g19 4 i,g19 5 i,g19 6 i,g19 7 i⟩,n20,g20⟩ n21 (fun i=>p21 0 i) (fun i=>g21 1 i) (fun i=>g21 2 i) a22) (El rfl rfl rfl (Aa H19 Cc) (Aa H20 Ek) (Aa H21 Ff)) hG
theorem EH (H:Type) (enc:TypeId×Value→H) (W:World) (base:Nat) (args:Array Value) (ds gs:List (DataW H)) (before:List MemPlace)
  (hval: ∀ (j:Nat) t v,Tryz.f3.params[j]? =some t→args[j]? =some v→Value.okWide Tryz.prog W .any base t v)
  (hW:DataW.Whole enc Tryz.prog Tryz.f3.params.toList Rows.loanTellsSpec.vars false W args.toList ds gs before) (hL:laidMetH Tryz.prog Rows.loanTellsRow.laid W):
  Calls Tryz.prog 3 args W fun e W'=> ∃ v,e= .returned v∧Rows.loanTellsSpec.post enc Tryz.prog Tryz.f3 false true false false W args v W':=
 uY (f:=Tryz.f3) (b:=4) (by kernel_rfl) Tryz.underlying4 rfl (fun ds hl=>by
  rw[Tryz.params3]at hl
  match ds,hl with
  |[x0],_=>rfl) (by rw[Tryz.params3];intro t ht;simp only[List.mem_cons,List.not_mem_nil,or_false]at ht;subst ht;exact⟨by kernel_rfl,of_decide_eq_true (by kernel_rfl)⟩) walk W base args ds gs before hval hW hL
theorem D5 (os:Os):laidMetH Tryz.prog Rows.loanTellsRow.laid ((pG os).forCall (fun _ _=>0) ⟨#[], #[.agg #[.int .i64 0, .int .i64 0, .int .i64 0, .int .i64 0, .int .i64 0, .int .i64 0, .int .i64 0, .bool false, .bool false, .bool false, .int .i64 0, .bool false, .bool false, .bool false, .bool false, .bool false, .bool false, .bool false, .slice none 0 0, .slice none 0 0, .slice none 0 0, .int .i64 0]],[]⟩).memory:=
 laidMetH_of_parts (laidMet_of_run' 8 (by kernel_rfl) (by kernel_rfl)) (by kernel_rfl)
theorem reads (os:Os) {H:Type} (enc:TypeId×Value→H): ∃ places,DataW.whole enc Tryz.prog ((pG os).forCall (fun _ _=>0) ⟨#[], #[.agg #[.int .i64 0, .int .i64 0, .int .i64 0, .int .i64 0, .int .i64 0, .int .i64 0, .int .i64 0, .bool false, .bool false, .bool false, .int .i64 0, .bool false, .bool false, .bool false, .bool false, .bool false, .bool false, .bool false, .slice none 0 0, .slice none 0 0, .slice none 0 0, .int .i64 0]],[]⟩).memory Tryz.f3.params.toList Rows.loanTellsSpec.vars false #[Value.agg #[.int .i64 0, .int .i64 0, .int .i64 0, .int .i64 0, .int .i64 0, .int .i64 0, .int .i64 0, .bool false, .bool false, .bool false, .int .i64 0, .bool false, .bool false, .bool false, .bool false, .bool false, .bool false, .bool false, .slice none 0 0, .slice none 0 0, .slice none 0 0, .int .i64 0]].toList 8=some ([.agg [.agg [.lit (.int .i64 0), .lit (.int .i64 0), .lit (.int .i64 0), .lit (.int .i64 0), .lit (.int .i64 0), .lit (.int .i64 0), .lit (.int .i64 0), .lit (.bool false), .lit (.bool false), .lit (.bool false), .lit (.int .i64 0)], .agg [.agg [.lit (.bool false), .lit (.bool false), .lit (.bool false), .lit (.bool false), .lit (.bool false), .lit (.bool false), .lit (.bool false)], .nil, .nil], .nil, .lit (.int .i64 0)]],[],places):=
 ⟨[],by kernel_rfl⟩
theorem lifted (os:Os) (started:os.Started) (H:Type) (enc:TypeId×Value→H) (F:Stop.Interp):
  ReturnsInHanded {} Tryz.checked os 3 .any ((OpenSpec.ofChange Rows.loanTellsSpec).preRow enc Tryz.prog Tryz.f3 Rows.loanTellsRow.domain false Rows.loanTellsRow.laid) (((OpenSpec.ofChange Rows.loanTellsSpec).at F).post enc Tryz.prog Tryz.f3 false true false false):=by
 obtain⟨places,hx⟩:=reads os enc
 refine returnsInHanded_of_row (C:=Tryz.checked) (s:=OpenSpec.ofChange Rows.loanTellsSpec) own started (by kernel_rfl) Tryz.func3
  (witness_row_at (enc:=enc) (C:=Tryz.checked) false (pG os) #[.agg #[.int .i64 0, .int .i64 0, .int .i64 0, .int .i64 0, .int .i64 0, .int .i64 0, .int .i64 0, .bool false, .bool false, .bool false, .int .i64 0, .bool false, .bool false, .bool false, .bool false, .bool false, .bool false, .bool false, .slice none 0 0, .slice none 0 0, .slice none 0 0, .int .i64 0]] rfl (by kernel_rfl) (by kernel_rfl) (by kernel_rfl)
   (OpenSpec.preRow_of_cond 8 hx (by kernel_rfl) (fun k hk=>by cases hk) (by kernel_rfl) (D5 os))) ?_
 intro W base args ds gs before hval hW _ _ _ hL _ _
 exact EH H enc W base args ds gs before hval hW hL
theorem j1:(Rows.loanTellsRow.inPlace==Tryz.pinned.checked.prog.inPlace 3)=true:=by kernel_rfl
theorem j2:(Rows.loanTellsRow.unfollowed==Tryz.pinned.checked.prog.unfollowed 3)=true:=by kernel_rfl
theorem j3:(Rows.loanTellsRow.recurses==Tryz.pinned.checked.prog.recurses 3)=true:=by kernel_rfl
theorem j4:(Rows.loanTellsRow.named==Tryz.pinned.checked.prog.varsNamed 3)=true:=by kernel_rfl
theorem j5:(Rows.loanTellsRow.lifted==Tryz.pinned.checked.prog.liftsFinal)=true:=Jb
theorem facts:joinedFacts Tryz.pinned.checked.prog 3 Tryz.f3 (OpenSpec.ofChange Rows.loanTellsSpec).bare Rows.loanTellsRow=true:=by
 unfold joinedFacts
 rw[j1,j2,j3,j4,j5,LI,Jc,Kq,LH]
 kernel_rfl
theorem I8:Tryz.pinned.checked.prog.funcNamed Rows.loanTellsRow.func=some 3:=by kernel_rfl
theorem goes:false=Rows.loanTellsRow.goesBy Tryz.pinned.checked.prog:=by kernel_rfl
theorem words:OpenClaim.wfByText (OpenSpec.ofChange Rows.loanTellsSpec) Rows.loanTellsRow=true:=by kernel_rfl
theorem said:Rows.LoanTellsSaid:=
 OpenClaim.holds_of_cond 3 Tryz.f3 rfl rfl rfl rfl rfl rfl rfl ⟨rfl,rfl,rfl,rfl,rfl⟩ rfl rfl rfl rfl rfl I8 Tryz.func3 facts
  (of_decide_eq_true (by kernel_rfl)) (by unfold Func.isWrapper;first|(rw[if_pos (by decide+kernel)];kernel_rfl)|(rw[if_neg (by decide+kernel)];exact⟨rfl,rfl⟩))
  (fun os started H enc _ F=>by rw[OpenClaim.pre_eq_preRow];exact lifted os started H enc F)
theorem plain (f:FuncId) (fn:Func) (hf:Tryz.pinned.checked.prog.funcNamed "demurrage/demurragelaw22.LoanTells" =some f) (hfn:Tryz.pinned.checked.prog.funcs[f]? =some fn):
  true=Tryz.pinned.checked.prog.looks []∧ ∀ (j:Nat) t,fn.params[j]? =some t→Tryz.pinned.checked.prog.wantsStandIn t=false:=by
 obtain rfl:f=3:=Option.some.inj ((show Tryz.prog.funcNamed "demurrage/demurragelaw22.LoanTells" =some 3 by kernel_rfl).symm.trans hf) |>.symm
 obtain rfl:fn=Tryz.f3:=(Option.some.inj (Tryz.func3.symm.trans hfn)).symm
 refine⟨Ja,fun j t ht=> ?_⟩
 rw[Tryz.params3]at ht
 have hm:=Array.mem_of_getElem? ht
 simp only[List.mem_toArray,List.mem_cons,List.not_mem_nil,or_false]at hm
 have s0:Tryz.prog.wantsStandIn 31=false:=(by kernel_rfl);subst hm
 exact s0
theorem card:Rows.LoanTellsCardSaid:=
 Claim7.holds_tied_plain_at .later [] _ _ _ _ said (fun _ h=>by cases h) words (fun _ h=>by cases h) loanTells_row_tie rfl ⟨rfl,rfl⟩ mainIs rfl plain goes
end Go.Proofs.YtelidogcomffkaaGreatDoor.loanTells
#print axioms Go.Proofs.YtelidogcomffkaaGreatDoor.loanTells.card
