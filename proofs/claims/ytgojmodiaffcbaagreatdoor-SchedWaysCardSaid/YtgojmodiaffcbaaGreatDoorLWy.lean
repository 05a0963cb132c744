/-
Two ways to count (SchedWays).
-/
import Derived.Test.YtgojmodiaffcbaaGreatDoorOp
import Derived.Test.YtgojmodiaffcbaaGreatDoorProg
import Derived.KernelRfl
set_option linter.unusedSectionVars false
set_option linter.unusedSimpArgs false
set_option linter.unusedVariables false
set_option maxRecDepth 100000
namespace Go.Proofs.YtgojmodiaffcbaaGreatDoor
open Go Go.Sx
variable [EnvT]
abbrev wT (t:Tms) (wa:Int):Tms:=Tms.mk t.a1 t.a2 t.a3 (Int.tmod wa 7) t.a5 t.a6 t.a7 t.a8 t.a9 t.a10 t.a11
noncomputable def lWays_h0 (t:Tms) (C:Cl) (wa:Int) (x1:Int):SC:=
 ⟨[⟨8,slo 128 [(7,B true),(10, .ptr 9 0),(11, .ptr 14 0),(13,I x1)],[.code (bodyAt Tryz.f8 [1,1,1,1,1,1,1,1,1,0,1,0,0]), .inLoop (bodyAt Tryz.f8 [1,1,1,1,1,1,1,1,1,0,1,0,0]), .inBlock 0, .code (bodyAt Tryz.f8 [1,1,1,1,1,1,1,1,1,1])],{}⟩],[some (.row false 83 C.nr 8 (fun i=>[I ((C.R i).kind),I ((C.R i).mon),I ((C.R i).day),I ((C.R i).k),I ((C.R i).off),I ((C.R i).sh),I ((C.R i).fr),I ((C.R i).to)])),some (.row false 3 C.nd 1 (fun i=>[I (C.D i)])),none,none,none,none,none,none,none,some (.box true [I t.a1,I t.a2,I t.a3,I (Int.tmod wa 7),I t.a5,I t.a6,I t.a7,B (t.a8),B (t.a9),B (t.a10),I t.a11]),some (.row true 3 (plN (wT t wa) C) 1 (fun i=>[I (tD (wT t wa) i)])),some (.row true 3 (plN (wT t wa) C) 1 (fun i=>[I ((tR (wT t wa) C i).1)])),some (.row true 48 (plN (wT t wa) C-1) 2 (fun i=>[I ((tP (wT t wa) C i).1),I ((tP (wT t wa) C i).2.1)])),some (.row true 3 (plK (wT t wa) C) 1 (fun i=>[I ((tQ (wT t wa) C i).1)])),some (.box true [.sl 10 (plN (wT t wa) C), .sl 11 (plN (wT t wa) C), .sl 12 (plN (wT t wa) C-1),B (plB (wT t wa) C),I (plE (wT t wa) C),I (plF (wT t wa) C), .sl 13 (plK (wT t wa) C)])]⟩
theorem lWays_w0 {X:Cx} {t:Tms} {C:Cl} {wa:Int} (hX:Fi X 8 (calH C) (B true) []) (H:((chk t.a1 t.a2 t.a3 t.a4 t.a5 t.a6 t.a7 t.a11)=0→((shP t C 40)=true→tSh t∧CalOk C∧Ir wa∧tSh (wT t wa)∧((schE t C)≠0→((schE t C)≠(schE (wT t wa) C)→(t.a4≠6→((Int.tmod wa 7)==6)=true)))∧((schE t C)=0→((schE (wT t wa) C)≠0→((schE t C)≠(schE (wT t wa) C)→(t.a4≠6→((Int.tmod wa 7)==6)=true)))∧((schE (wT t wa) C)=0→((plN t C)=(plN (wT t wa) C)∧ ∀ i,i<(plN t C)→(fun i=>tD t i) i=(fun i=>tD (wT t wa) i) i)∧(plN t C)≤100000∧((plN t C)=(plN (wT t wa) C)∧ ∀ i,i<(plN t C)→(fun i=>(tR t C i).1) i=(fun i=>(tR (wT t wa) C i).1) i)∧Ir ((((plN (wT t wa) C):Nat):Int)-1)∧(((plN (wT t wa) C-1):Nat):Int)=((((plN (wT t wa) C):Nat):Int)-1)∧Ok X (lWays_h0 t C wa 0)))))):
  Ok X (entry Tryz.prog 8 [.agg [I t.a1,I t.a2,I t.a3,I t.a4,I t.a5,I t.a6,I t.a7,B (t.a8),B (t.a9),B (t.a10),I t.a11], .agg [B (C.off 0),B (C.off 1),B (C.off 2),B (C.off 3),B (C.off 4),B (C.off 5),B (C.off 6), .sl 0 C.nr, .sl 1 C.nd],N .u8 wa] (calH C)):=by
 refine hX.go [c_ [] shown17,c_ [] (rCheck t.a1 t.a2 t.a3 t.a4 t.a5 t.a6 t.a7 (t.a8) (t.a9) (t.a10) t.a11)] ?_
 by_cases h0:(chk t.a1 t.a2 t.a3 t.a4 t.a5 t.a6 t.a7 t.a11)=0
 ·have K1:=H h0
  refine hX.go [n_ 3 (f_ (bne_eq_false_iff_eq.2 h0)),c_ [0,1] (show S 10 [.agg [I t.a1,I t.a2,I t.a3,I t.a4,I t.a5,I t.a6,I t.a7,B (t.a8),B (t.a9),B (t.a10),I t.a11], .agg [B (C.off 0),B (C.off 1),B (C.off 2),B (C.off 3),B (C.off 4),B (C.off 5),B (C.off 6), .sl 0 C.nr, .sl 1 C.nd],I 40] (calH C) (B (shP t C 40)) []from rShort17 t (by decide)),f_ (bne_eq_false_iff_eq.2 h0),f_ (bne_eq_false_iff_eq.2 h0)] ?_
  rcases bcase (shP t C 40)with h1|h1
  ·obtain⟨h2,h3,h4,h5,L6,K6⟩:=K1 h1
   refine hX.go [f_ (nf h1),c_ [0,1] (show S 11 [.agg [I t.a1,I t.a2,I t.a3,I t.a4,I t.a5,I t.a6,I t.a7,B (t.a8),B (t.a9),B (t.a10),I t.a11], .agg [B (C.off 0),B (C.off 1),B (C.off 2),B (C.off 3),B (C.off 4),B (C.off 5),B (C.off 6), .sl 0 C.nr, .sl 1 C.nd]] (calH C) (.tup [.agg [.sl 2 (plN t C), .sl 3 (plN t C), .sl 4 (plN t C-1),B (plB t C),I (plE t C),I (plF t C), .sl 5 (plK t C)],I (schE t C)]) [some (.row true 3 (plN t C) 1 (fun i=>[I (tD t i)])),some (.row true 3 (plN t C) 1 (fun i=>[I ((tR t C i).1)])),some (.row true 48 (plN t C-1) 2 (fun i=>[I ((tP t C i).1),I ((tP t C i).2.1)])),some (.row true 3 (plK t C) 1 (fun i=>[I ((tQ t C i).1)]))]from sOf t h2 h3),q_ h4,q_ (show(7:Int)≠0 from by decide),h_ [.t],c_ [0,1] (show S 11 [.agg [I t.a1,I t.a2,I t.a3,I (Int.tmod wa 7),I t.a5,I t.a6,I t.a7,B (t.a8),B (t.a9),B (t.a10),I t.a11], .agg [B (C.off 0),B (C.off 1),B (C.off 2),B (C.off 3),B (C.off 4),B (C.off 5),B (C.off 6), .sl 0 C.nr, .sl 1 C.nd]] (calH C) (.tup [.agg [.sl 2 (plN (wT t wa) C), .sl 3 (plN (wT t wa) C), .sl 4 (plN (wT t wa) C-1),B (plB (wT t wa) C),I (plE (wT t wa) C),I (plF (wT t wa) C), .sl 5 (plK (wT t wa) C)],I (schE (wT t wa) C)]) [some (.row true 3 (plN (wT t wa) C) 1 (fun i=>[I (tD (wT t wa) i)])),some (.row true 3 (plN (wT t wa) C) 1 (fun i=>[I ((tR (wT t wa) C i).1)])),some (.row true 48 (plN (wT t wa) C-1) 2 (fun i=>[I ((tP (wT t wa) C i).1),I ((tP (wT t wa) C i).2.1)])),some (.row true 3 (plK (wT t wa) C) 1 (fun i=>[I ((tQ (wT t wa) C i).1)]))]from sOf (wT t wa) h5 h3)] ?_
   by_cases h6:(schE t C)=0
   ·obtain⟨L7,K7⟩:=K6 h6
    refine hX.go [n_ 3 (f_ (bne_eq_false_iff_eq.2 h6))] ?_
    by_cases h7:(schE (wT t wa) C)=0
    ·obtain⟨h8,h9,h10,h11,c12,K12⟩:=K7 h7
     refine hX.go [f_ (bne_eq_false_iff_eq.2 h7),c_ [4,10] (show S 20 [.sl 0 (plN t C), .sl 1 (plN (wT t wa) C)] [some (.row false 3 (plN t C) 1 (fun i=>[I (tD t i)])),some (.row false 3 (plN (wT t wa) C) 1 (fun i=>[I (tD (wT t wa) i)]))] (B true) []from rRowT h8 h9),n_ 5 (f_ rf),c_ [5,11] (show S 20 [.sl 0 (plN t C), .sl 1 (plN (wT t wa) C)] [some (.row false 3 (plN t C) 1 (fun i=>[I ((tR t C i).1)])),some (.row false 3 (plN (wT t wa) C) 1 (fun i=>[I ((tR (wT t wa) C i).1)]))] (B true) []from rRowT h10 h9),n_ 9 (f_ rf),q_ h11,h_ [.t],f_ rf,f_ rf] ?_
     by_cases h12:(((plN (wT t wa) C-1):Nat):Int)=((((plN (wT t wa) C):Nat):Int)-1)
     ·have k:=K12
      exact hX.h 9 [f_ (bne_eq_false_iff_eq.2 h12)] [.old 0, .old 1, .old 1002, .old 1003, .old 1004, .old 1005, .old 1006, .old 1007, .old 1008, .old 9, .old 10, .old 11, .old 12, .old 13, .old 14] k
     ·exact absurd c12 h12
    ·have K8:=L7 h7
     refine hX.go [t_ (bne_iff_ne.2 h7),n_ 4 (t_ rt)] ?_
     by_cases h8:(schE t C)=(schE (wT t wa) C)
     ·exact hX.e [n_ 3 (t_ (beq_iff_eq.2 h8)),t_ rt,t_ (beq_iff_eq.2 h8),n_ 7 (t_ rt)]
     ·have K9:=K8 h8
      refine hX.go [n_ 3 (f_ (beq_eq_false_iff_ne.2 h8)),t_ rt,f_ (beq_eq_false_iff_ne.2 h8),t_ rt] ?_
      by_cases h9:t.a4=6
      ·exact hX.e [n_ 3 (t_ (beq_iff_eq.2 h9)),t_ rt,t_ (beq_iff_eq.2 h9),t_ rt]
      ·have HE:=K9 h9
       exact(hX.to (congrArg B HE).symm).e [n_ 3 (f_ (beq_eq_false_iff_ne.2 h9)),t_ rt,f_ (beq_eq_false_iff_ne.2 h9),t_ rt]
   ·have K7:=L6 h6
    refine hX.go [n_ 3 (t_ (bne_iff_ne.2 h6)),n_ 5 (t_ rt)] ?_
    by_cases h7:(schE t C)=(schE (wT t wa) C)
    ·exact hX.e [n_ 3 (t_ (beq_iff_eq.2 h7)),t_ rt,t_ (beq_iff_eq.2 h7),n_ 7 (t_ rt)]
    ·have K8:=K7 h7
     refine hX.go [n_ 3 (f_ (beq_eq_false_iff_ne.2 h7)),t_ rt,f_ (beq_eq_false_iff_ne.2 h7),t_ rt] ?_
     by_cases h8:t.a4=6
     ·exact hX.e [n_ 3 (t_ (beq_iff_eq.2 h8)),t_ rt,t_ (beq_iff_eq.2 h8),t_ rt]
     ·have HE:=K8 h8
      exact(hX.to (congrArg B HE).symm).e [n_ 3 (f_ (beq_eq_false_iff_ne.2 h8)),t_ rt,f_ (beq_eq_false_iff_ne.2 h8),t_ rt]
  ·exact hX.e [t_ (nt h1)]
 ·exact hX.e [n_ 5 (t_ (bne_iff_ne.2 h0)),t_ rt]
theorem lWays_w1 {X:Cx} {t:Tms} {C:Cl} {wa x1:Int} (hX:Fi X 8 (calH C) (B true) []) (H:(x1<(((plN (wT t wa) C-1):Nat):Int)→((0:Int)≤x1∧x1<(((plN (wT t wa) C):Nat):Int))∧Ir (x1+1)∧((0:Int)≤(x1+1)∧(x1+1)<(((plN (wT t wa) C):Nat):Int))∧((partC (Int.tmod wa 7) ((tR (wT t wa) C x1.toNat).1) ((tR (wT t wa) C ((x1+1).toNat)).1) (plB (wT t wa) C) (plE (wT t wa) C) (plF (wT t wa) C) (plK (wT t wa) C) (fun i=>(tQ (wT t wa) C i).1)).2.2)=0∧((0:Int)≤x1∧x1<(((plN (wT t wa) C-1):Nat):Int))∧((((partC (Int.tmod wa 7) ((tR (wT t wa) C x1.toNat).1) ((tR (wT t wa) C ((x1+1).toNat)).1) (plB (wT t wa) C) (plE (wT t wa) C) (plF (wT t wa) C) (plK (wT t wa) C) (fun i=>(tQ (wT t wa) C i).1)).1)==((tP (wT t wa) C x1.toNat).1))&&((((partC (Int.tmod wa 7) ((tR (wT t wa) C x1.toNat).1) ((tR (wT t wa) C ((x1+1).toNat)).1) (plB (wT t wa) C) (plE (wT t wa) C) (plF (wT t wa) C) (plK (wT t wa) C) (fun i=>(tQ (wT t wa) C i).1)).2.1)==((tP (wT t wa) C x1.toNat).2.1))&&true))=true∧Ok X (lWays_h0 t C wa (x1+1)))):
  Ok X (lWays_h0 t C wa x1):=by
 by_cases h0:x1<(((plN (wT t wa) C-1):Nat):Int)
 ·obtain⟨h1,h2,h3,c4,K4⟩:=H h0
  refine hX.go [t_ (dt h0),q_ h1,q_ (show(plN (wT t wa) C)=(plN (wT t wa) C)from rfl),q_ h1,q_ h2,q_ h3,q_ (show(plN (wT t wa) C)=(plN (wT t wa) C)from rfl),q_ h3,h_ [.draw 20 [18] 1, .t],c_ [13] (show S 19 [I (Int.tmod wa 7),I ((tR (wT t wa) C x1.toNat).1),I ((tR (wT t wa) C ((x1+1).toNat)).1), .agg [B (plB (wT t wa) C),I (plE (wT t wa) C),I (plF (wT t wa) C), .sl 0 (plK (wT t wa) C)]] [some (.row false 3 (plK (wT t wa) C) 1 (fun i=>[I ((tQ (wT t wa) C i).1)]))] (RT (partC (Int.tmod wa 7) ((tR (wT t wa) C x1.toNat).1) ((tR (wT t wa) C ((x1+1).toNat)).1) (plB (wT t wa) C) (plE (wT t wa) C) (plF (wT t wa) C) (plK (wT t wa) C) (fun i=>(tQ (wT t wa) C i).1))) []from rPart _ _ _),q_ (show(I ((partC (Int.tmod wa 7) ((tR (wT t wa) C x1.toNat).1) ((tR (wT t wa) C ((x1+1).toNat)).1) (plB (wT t wa) C) (plE (wT t wa) C) (plF (wT t wa) C) (plK (wT t wa) C) (fun i=>(tQ (wT t wa) C i).1)).2.2):SV)=I ((partC (Int.tmod wa 7) ((tR (wT t wa) C x1.toNat).1) ((tR (wT t wa) C ((x1+1).toNat)).1) (plB (wT t wa) C) (plE (wT t wa) C) (plF (wT t wa) C) (plK (wT t wa) C) (fun i=>(tQ (wT t wa) C i).1)).2.2)from rfl),q_ (show(I ((partC (Int.tmod wa 7) ((tR (wT t wa) C x1.toNat).1) ((tR (wT t wa) C ((x1+1).toNat)).1) (plB (wT t wa) C) (plE (wT t wa) C) (plF (wT t wa) C) (plK (wT t wa) C) (fun i=>(tQ (wT t wa) C i).1)).2.2):SV)=I ((partC (Int.tmod wa 7) ((tR (wT t wa) C x1.toNat).1) ((tR (wT t wa) C ((x1+1).toNat)).1) (plB (wT t wa) C) (plE (wT t wa) C) (plF (wT t wa) C) (plK (wT t wa) C) (fun i=>(tQ (wT t wa) C i).1)).2.2)from rfl)] ?_
  by_cases h4:((partC (Int.tmod wa 7) ((tR (wT t wa) C x1.toNat).1) ((tR (wT t wa) C ((x1+1).toNat)).1) (plB (wT t wa) C) (plE (wT t wa) C) (plF (wT t wa) C) (plK (wT t wa) C) (fun i=>(tQ (wT t wa) C i).1)).2.2)=0
  ·obtain⟨h5,c6,K6⟩:=K4
   refine hX.go [d_ 9,n_ 5 (f_ (bne_eq_false_iff_eq.2 h4)),q_ h5,q_ (show(plN (wT t wa) C-1)=(plN (wT t wa) C-1)from rfl),f_ (bne_eq_false_iff_eq.2 h4),q_ h5,f_ (bne_eq_false_iff_eq.2 h4),f_ (bne_eq_false_iff_eq.2 h4)] ?_
   rcases bcase ((((partC (Int.tmod wa 7) ((tR (wT t wa) C x1.toNat).1) ((tR (wT t wa) C ((x1+1).toNat)).1) (plB (wT t wa) C) (plE (wT t wa) C) (plF (wT t wa) C) (plK (wT t wa) C) (fun i=>(tQ (wT t wa) C i).1)).1)==((tP (wT t wa) C x1.toNat).1))&&((((partC (Int.tmod wa 7) ((tR (wT t wa) C x1.toNat).1) ((tR (wT t wa) C ((x1+1).toNat)).1) (plB (wT t wa) C) (plE (wT t wa) C) (plF (wT t wa) C) (plK (wT t wa) C) (fun i=>(tQ (wT t wa) C i).1)).2.1)==((tP (wT t wa) C x1.toNat).2.1))&&true))with h6|h6
   ·have k:=K6
    exact hX.h 9 [f_ (nf h6),q_ h2,h_ [.t]] [.old 0, .old 1, .old 1002, .old 1003, .old 1004, .old 1005, .old 1006, .old 1007, .old 1008, .old 9, .old 10, .old 11, .old 12, .old 13, .old 14] k
   ·exact Go.Sx.nob c6 h6
  ·exact absurd c4 h4
 ·exact hX.e [f_ (df h0)]
theorem chk_way {a1 a2 a3 a4 k a5 a6 a7 r:Int} (h:chk a1 a2 a3 a4 a5 a6 a7 r=0) (hk:0≤k∧k≤6):chk a1 a2 a3 k a5 a6 a7 r=0:=by
 unfold chk at h⊢
 split at h
 ·exact absurd h (by decide)
 ·rename_i c
  rw[if_neg (by omega)]
  exact h
theorem sch_no6 {t:Tms} {C:Cl} (hs:tSh t) (h0:tCk t=0) (h6:t.a4≠6):schE t C=fstE (fun i=>(tR t C i).2) (tN t):=by
 unfold schE
 rw[if_neg (by rw[h0];decide)]
 by_cases r:fstE (fun i=>(tR t C i).2) (tN t)=0
 ·rw[if_neg (by rw[r];decide),if_neg (fun q=>h6 q.1),r]
  have rr:=fun i hi=>fstE_0 r i hi
  refine fstE_no fun i hi=> ?_
  have w:whyR (tR t C i).1 (tR t C (i+1)).1=0:=by
   have di:=tD_day h0 hs (i:=i) (by omega)
   have dj:=tD_day h0 hs (i:=i+1) (by omega)
   rw[why_0]
   refine⟨toV_day di (rr i (by omega)),toV_day dj (rr (i+1) (by omega)), ?_⟩
   have:=tD_rise h0 hs (i:=i) (by omega)
   have:(tR t C i).1≤(tR t C (i+1)).1:=toV_mono di dj (by omega) (rr i (by omega)) (rr (i+1) (by omega))
   omega
  rcases partC_e (eom:=t.a10) (e:=tE t C) (f:=frq t.a7) (n:=tK t) (g:=fun i=>(tQ t C i).1) (chk_cnt h0) w with e|e
  ·exact e
  ·exact absurd e.1 h6
 ·rw[if_pos r]
theorem lWays_loop {X:Cx} {t:Tms} {C:Cl} {wa:Int} (hX:Fi X 8 (calH C) (B true) []) (hs:tSh (wT t wa)) (h:schE (wT t wa) C=0):
  ∀ (f j:Nat),tN (wT t wa)-1=j+f→Ok X (lWays_h0 t C wa j):=by
 intro f
 have p:plN (wT t wa) C=tN (wT t wa):=if_pos h
 have hn:=tN_le (schE_ck h) hs
 obtain⟨-, -, -,s⟩:=sch0 h
 induction f with
 |zero=>exact fun j hj=>lWays_w1 hX fun q=>absurd q (by omega)
 |succ f ih=>
  intro j hj
  refine lWays_w1 hX fun q=> ?_
  rw[Int.toNat_natCast,show((j:Int)+1).toNat=j+1 by omega,show plB (wT t wa) C=t.a10 from if_pos h,show plE (wT t wa) C=tE (wT t wa) C from if_pos h,show plF (wT t wa) C=frq t.a7 from if_pos h,show plK (wT t wa) C=tK (wT t wa)from if_pos h]
  exact⟨by omega,irT (by omega),by omega,s j (by omega),by omega,by show((tP (wT t wa) C j).1==(tP (wT t wa) C j).1&&_)=true;simp[tP],ih (j+1) (by omega)⟩
theorem lWays (t:Tms) (C:Cl) {wa:Int} (hw:InR .u8 wa):S 8 [tmL t,calL C,N .u8 wa] (calH C) (B true) []:=by
 refine SCall.st fun X hX=> ?_
 refine lWays_w0 hX fun(h0:tCk t=0) h=> ?_
 have hm:=shP_t h (by decide)
 have hs:=hm.2.1
 simp only[InR]at hw
 have hv:0≤Int.tmod wa 7∧Int.tmod wa 7≤6:=by rw[Int.tmod_eq_emod_of_nonneg (by omega)];omega
 have k0:tCk (wT t wa)=0:=chk_way h0 hv
 have su:tSh (wT t wa):=fun _=>hs h0
 have hN:tN (wT t wa)=tN t:=by rw[tN_eq h0,tN_eq k0]
 have e1:t.a4≠6→schE t C≠schE (wT t wa) C→(Int.tmod wa 7==6)=true:=fun q1 q2=>by
  rw[beq_iff_eq]
  apply Classical.byContradiction
  intro q3
  refine q2 ?_
  rw[sch_no6 hs h0 q1,sch_no6 su k0 q3,hN];rfl
 refine⟨hs,hm.1,irT (by omega),su,fun _ q r=>e1 r q,fun q1=>⟨fun _ q r=>e1 r q,fun q2=> ?_⟩⟩
 have p1:plN t C=tN t:=if_pos q1
 have p2:plN (wT t wa) C=tN (wT t wa):=if_pos q2
 have hn:=tN_le h0 hs
 exact⟨⟨by omega,fun i _=>rfl⟩,by omega,⟨by omega,fun i _=>rfl⟩,irT (by omega),by omega,lWays_loop hX su q2 (tN (wT t wa)-1) 0 (by omega)⟩
end Go.Proofs.YtgojmodiaffcbaaGreatDoor
