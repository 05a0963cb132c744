import Derived.Test.YtelidogcomffkaaGreatDoorPrt
import Derived.Test.YtelidogcomffkaaGreatDoorProg
import Derived.WalkKit
import Derived.LaidEql
import Derived.Stop.Asserts
import Derived.RowKitTokens
import Derived.KernelRfl
import Derived.Laws.Externs
set_option linter.unusedSectionVars false
set_option linter.unusedSimpArgs false
set_option linter.unusedVariables false
set_option maxRecDepth 100000
namespace Go.Proofs.YtelidogcomffkaaGreatDoor
open Go Go.Sx
variable [Env]
theorem zX {a1 a2:Int} {n3:Nat} {g4:Nat→Int} {a5:Int} {r6:Bool} (h0:S 226 [I a1] [] (B r6) []) (h1:r6=false):
  S 196 [I a1,I a2, .sl 0 n3,I a5] [ri n3 g4] (.af [.agg [I 0,I 0], .dZ 267 (.agg [I 3])]) []:=
 ab.path 31 [.call [] (B r6) [],tb,tb,tb,tb,tb] [] 6 (by kernel_rfl) rfl (by exact⟨fun _=>rfl,trivial⟩) (ca h0 (ca (nt h1) (ca (nt h1) (ca (nt h1) (ca (nt h1) (ca rt na))))))
theorem zW {a1 a2:Int} {n3:Nat} {g4:Nat→Int} {a5:Int} {r6 r7:Bool} (h0:S 226 [I a1] [] (B r6) []) (h1:r6=true) (h2:S 226 [I a2] [] (B r7) []) (h3:r7=false):
  S 196 [I a1,I a2, .sl 0 n3,I a5] [ri n3 g4] (.af [.agg [I 0,I 0], .dZ 267 (.agg [I 3])]) []:=
 ab.path 31 [.call [] (B r6) [],fb,fb, .call [] (B r7) [],fb,fb,tb] [] 6 (by kernel_rfl) rfl (by exact⟨fun _=>rfl,trivial⟩) (ca h0 (ca (nf h1) (ca (nf h1) (ca h2 (ca (nf h1) (ca (nf h1) (ca (nt h3) na)))))))
theorem zV {a1 a2:Int} {n3:Nat} {g4:Nat→Int} {a5:Int} {r6 r7:Bool} (h0:S 226 [I a1] [] (B r6) []) (h1:r6=true) (h2:S 226 [I a2] [] (B r7) []) (h3:r7=true) (h4:a1>a2):
  S 196 [I a1,I a2, .sl 0 n3,I a5] [ri n3 g4] (.af [.agg [I 0,I 0], .dZ 267 (.agg [I 4])]) []:=
 ab.path 39 [.call [] (B r6) [],fb,fb, .call [] (B r7) [],fb,fb,fb,tb] [] 6 (by kernel_rfl) rfl (by exact⟨fun _=>rfl,trivial⟩) (ca h0 (ca (nf h1) (ca (nf h1) (ca h2 (ca (nf h1) (ca (nf h1) (ca (nf h3) (ca (dt h4) na))))))))
theorem zU {a1 a2:Int} {n3:Nat} {g4:Nat→Int} {a5:Int} {r6 r7 r8:Bool} (h0:S 226 [I a1] [] (B r6) []) (h1:r6=true) (h2:S 226 [I a2] [] (B r7) []) (h3:r7=true) (h4: ¬a1>a2) (h5:S 227 [.sl 0 n3,I a5] [ri n3 g4] (B r8) []) (h6:r8=false):
  S 196 [I a1,I a2, .sl 0 n3,I a5] [ri n3 g4] (.af [.agg [I 0,I 0], .dZ 267 (.agg [I 5])]) []:=
 ab.path 46 [.call [] (B r6) [],fb,fb, .call [] (B r7) [],fb,fb,fb,fb, .draw 19 [] 0, .call [0] (B r8) [],tb,tb,tb,tb,tb,tb,tb,tb,tb,tb,tb,tb,tb,tb,tb,tb] [] 6 (by kernel_rfl) rfl (by exact⟨fun _=>rfl,trivial⟩) (ca h0 (ca (nf h1) (ca (nf h1) (ca h2 (ca (nf h1) (ca (nf h1) (ca (nf h3) (ca (df h4) (ca h5 (ca (nt h6) (ca (nt h6) (ca (nt h6) (ca (nt h6) (ca (nt h6) (ca (nt h6) (ca rt (ca rt (ca rt (ca rt (ca rt (ca rt (ca rt (ca rt (ca rt (ca rt na)))))))))))))))))))))))))
theorem zT {a1 a2:Int} {n3:Nat} {g4:Nat→Int} {a5:Int} {r6 r7 r8:Bool} (h0:S 226 [I a1] [] (B r6) []) (h1:r6=true) (h2:S 226 [I a2] [] (B r7) []) (h3:r7=true) (h4: ¬a1>a2) (h5:S 227 [.sl 0 n3,I a5] [ri n3 g4] (B r8) []) (h6:r8=true) (h7:(0:Int)≤0∧0<((n3:Nat):Int)) (h8:a1<(g4 0)):
  S 196 [I a1,I a2, .sl 0 n3,I a5] [ri n3 g4] (.af [.agg [I 0,I 0], .dZ 267 (.agg [I 5])]) []:=
 ab.path 46 [.call [] (B r6) [],fb,fb, .call [] (B r7) [],fb,fb,fb,fb, .draw 19 [] 0, .call [0] (B r8) [],fb,fb,fb,fb,fb,fb,tb,tb,tb,tb,tb,tb,tb,tb,tb,tb] [] 6 (by kernel_rfl) rfl (by exact⟨fun _=>rfl,trivial⟩) (ca h0 (ca (nf h1) (ca (nf h1) (ca h2 (ca (nf h1) (ca (nf h1) (ca (nf h3) (ca (df h4) (ca h5 (ca (nf h6) (ca (nf h6) (ca (nf h6) (ca h7 (ca (re n3) (ca (nf h6) (ca h7 (ca (nf h6) (ca (nf h6) (ca (dt h8) (ca (dt h8) (ca (dt h8) (ca (dt h8) (ca (dt h8) (ca (dt h8) (ca (dt h8) (ca (dt h8) (ca (dt h8) (ca rt na))))))))))))))))))))))))))))
theorem zS {a1 a2:Int} {n3:Nat} {g4:Nat→Int} {a5:Int} {r6 r7 r8:Bool} (h0:S 226 [I a1] [] (B r6) []) (h1:r6=true) (h2:S 226 [I a2] [] (B r7) []) (h3:r7=true) (h4: ¬a1>a2) (h5:S 227 [.sl 0 n3,I a5] [ri n3 g4] (B r8) []) (h6:r8=true) (h7:(0:Int)≤0∧0<((n3:Nat):Int)) (h8: ¬a1<(g4 0)) (h9:aj .i64 (((n3:Nat):Int)-1)) (h10:(0:Int)≤(((n3:Nat):Int)-1)∧(((n3:Nat):Int)-1)<((n3:Nat):Int)) (h11:a2>(g4 ((((n3:Nat):Int)-1).toNat))):
  S 196 [I a1,I a2, .sl 0 n3,I a5] [ri n3 g4] (.af [.agg [I 0,I 0], .dZ 267 (.agg [I 5])]) []:=
 ab.path 46 [.call [] (B r6) [],fb,fb, .call [] (B r7) [],fb,fb,fb,fb, .draw 19 [] 0, .call [0] (B r8) [],fb,fb,fb,fb,fb,fb,fb,fb,fb,fb,fb,fb,fb,fb,fb,tb] [] 6 (by kernel_rfl) rfl (by exact⟨fun _=>rfl,trivial⟩) (ca h0 (ca (nf h1) (ca (nf h1) (ca h2 (ca (nf h1) (ca (nf h1) (ca (nf h3) (ca (df h4) (ca h5 (ca (nf h6) (ca (nf h6) (ca (nf h6) (ca h7 (ca (re n3) (ca (nf h6) (ca h7 (ca (nf h6) (ca (nf h6) (ca (df h8) (ca (df h8) (ca (df h8) (ca (df h8) (ca (df h8) (ca h9 (ca (df h8) (ca h10 (ca (re n3) (ca (df h8) (ca h10 (ca (df h8) (ca (df h8) (ca (dt h11) na))))))))))))))))))))))))))))))))
noncomputable def fz (n3:Nat) (g4:Nat→Int) (x1:Int) (x2:Int) (x3:Int) (x4:Int) (x5:Int) (x6:Int) (x7:Int):SC:=
 ⟨[⟨196,[none,none,none,none,some (.ptr 1 0),some (.ptr 2 0),none,some (.ptr 3 0),some (.ptr 4 0),some (.ptr 5 0),some (.ptr 6 0),none,none,none,none,none,none,none,none,none,none,none,none,none,none,none,none,none,none,none,none,none,none,none,none,none,none,none,none,none,none,none,none,none,none,none,none,none,none,none,none,none,none,none,none,none,none,none,none,none,none,some (.fn (.func 248) [] [.ptr 7 0]),none,none,none,none,none,none,none,none,none,none,none,none,none,none,none,none,none,none,none,none,none,none,none,none,none,none,none,none,none,none,none,none,none,none,none,none],[.code (aa Tryz.f196 [1,1,1,0,1,0]), .inBlock 1, .code (aa Tryz.f196 [1,1,1,1])],{}⟩],[ri n3 g4,some (.box true [I x1]),some (.box true [I x2]),some (.box true [I x3]),some (.box true [I x4,I x5]),some (.box true [.val .nilIface]),some (.box true [I x6,I x7]),some (.box true [.sl 0 n3])]⟩
theorem zR {X:Cx} {res:SV} {new:List (Option Vw)} {a1 a2:Int} {n3:Nat} {g4:Nat→Int} {a5:Int} {r6 r7 r8:Bool} (hX:Fi X 196 [ri n3 g4] res new) (h0:S 226 [I a1] [] (B r6) []) (h1:r6=true) (h2:S 226 [I a2] [] (B r7) []) (h3:r7=true) (h4: ¬a1>a2) (h5:S 227 [.sl 0 n3,I a5] [ri n3 g4] (B r8) []) (h6:r8=true) (h7:(0:Int)≤0∧0<((n3:Nat):Int)) (h8: ¬a1<(g4 0)) (h9:aj .i64 (((n3:Nat):Int)-1)) (h10:(0:Int)≤(((n3:Nat):Int)-1)∧(((n3:Nat):Int)-1)<((n3:Nat):Int)) (h11: ¬a2>(g4 ((((n3:Nat):Int)-1).toNat))) (k:Ok X (fz n3 g4 a1 a2 a5 0 0 0 1)):
  Ok X (entry Tryz.prog 196 [I a1,I a2, .sl 0 n3,I a5] [ri n3 g4]):=
 Ok.bg 64 [.call [] (B r6) [],fb,fb, .call [] (B r7) [],fb,fb,fb,fb, .draw 19 [] 0, .call [0] (B r8) [],fb,fb,fb,fb,fb,fb,fb,fb,fb,fb,fb,fb,fb,fb,fb,fb, .inl] [cN 98 [4,5,7,8,9,10,61]] [.ae 0, .ae 1, .ae 2, .ae 3, .ae 4, .ae 5, .ae 6, .ae 7] 1 hX.P hX.gl hX.n0 (by kernel_rfl) (by kernel_rfl) (by exact⟨fun _=>rfl,rfl,rfl,rfl,rfl,rfl,rfl,rfl,trivial⟩) (ca h0 (ca (nf h1) (ca (nf h1) (ca h2 (ca (nf h1) (ca (nf h1) (ca (nf h3) (ca (df h4) (ca h5 (ca (nf h6) (ca (nf h6) (ca (nf h6) (ca h7 (ca (re n3) (ca (nf h6) (ca h7 (ca (nf h6) (ca (nf h6) (ca (df h8) (ca (df h8) (ca (df h8) (ca (df h8) (ca (df h8) (ca h9 (ca (df h8) (ca h10 (ca (re n3) (ca (df h8) (ca h10 (ca (df h8) (ca (df h8) (ca (df h11) na)))))))))))))))))))))))))))))))) k
noncomputable def pe (l_:Nat) (n3:Nat) (g4:Nat→Int):SC:=
 ⟨[⟨248,[some (.val (.func (.yield l_) #[] #[])),some (.ptr 7 0),some (.af []),some (.af []),some (.af []),some (.af []),some (.af []),some (.af []),some (.af []),some (.af []),some (.af []),some (.af []),some (.af []),some (.af []),some (.af []),some (.af []),some (.af []),some (.af []),some (.af []),some (.af []),some (.af []),some (.af []),some (.af []),some (.af []),some (.af []),some (.af []),some (.af []),some (.af []),some (.af []),some (.af []),some (.af []),some (.af []),some (.af []),some (.af [])],[.code (aa Tryz.f248 [])],{}⟩],[ri n3 g4,none,none,none,none,none,none,some (.box false [.sl 0 n3])]⟩
noncomputable def cv (l_:Nat) (n3:Nat) (g4:Nat→Int) (z1:Int):SC:=
 ⟨[⟨248,[some (.val (.func (.yield l_) #[] #[])),some (.ptr 7 0),none,some (I z1),none,none,none,none,none,none,none,none,none,none,none,none,none,none,none,none,none,none,none,none,none,none,none,none,none,none,none,none,none,none],[.code (aa Tryz.f248 [1,0,0]), .inLoop (aa Tryz.f248 [1,0,0]), .inBlock 0],{}⟩],[ri n3 g4,none,none,none,none,none,none,some (.box false [.sl 0 n3])]⟩
theorem va {X:Cx} {l_ n3:Nat} {g4:Nat→Int} (hP:X.P=Tryz.prog) (hG:X.gl=GL) (hN:X.n0=8) (k:Ok X (cv l_ n3 g4 1)):
  Ok X (pe l_ n3 g4):=
 Ok.bg 6 [] [cN 34 [0,1,3]] [.ae 0, .ae 1, .ae 2, .ae 3, .ae 4, .ae 5, .ae 6, .ae 7] 8 hP hG hN (by kernel_rfl) (by kernel_rfl) (by exact⟨fun _=>rfl,rfl,trivial⟩) na k
noncomputable def mW (l_:Nat) (n3:Nat) (g4:Nat→Int) (z1:Int) (z2:Bool) (z3:Int) (z4:Int):SC:=
 ⟨[⟨248,[some (.val (.func (.yield l_) #[] #[])),some (.ptr 7 0),none,some (I z1),none,none,none,none,none,none,none,none,none,none,none,none,none,none,none,none,some (B z2),some (.val (.func (.yield l_) #[] #[])),none,none,none,none,some (I z3),none,none,none,some (I z4),none,none,none],[.inRegion (aU Tryz.f248 [1,0,0,1,0,0,0]) [21,22,23], .code (aa Tryz.f248 [1,0,0,1,0,0,1]), .inBlock 1, .code (aa Tryz.f248 [1,0,0,1,1]), .inLoop (aa Tryz.f248 [1,0,0]), .inBlock 0],{}⟩],[ri n3 g4,none,none,none,none,none,none,some (.box false [.sl 0 n3])]⟩
theorem u_ {X:Cx} {l_ n3:Nat} {g4:Nat→Int} {z1:Int} (hP:X.P=Tryz.prog) (hG:X.gl=GL) (hN:X.n0=8) (h0:z1<((n3:Nat):Int)) (h1:aj .i64 (z1-1)) (h2:(0:Int)≤(z1-1)∧(z1-1)<((n3:Nat):Int)) (h3:(0:Int)≤z1∧z1<((n3:Nat):Int)) (h4:(g4 ((z1-1).toNat))<(g4 z1.toNat)) (k:Ok X (mW l_ n3 g4 z1 (decide ((g4 ((z1-1).toNat))<(g4 z1.toNat))) (g4 ((z1-1).toNat)) (g4 z1.toNat))):
  Ok X (cv l_ n3 g4 z1):=
 Ok.bg 14 [tb, .draw 21 [] 0,tb,tb,tb,tb,tb,tb,tb,tb,tb,tb] [cN 34 [0,1,3,20,21,26,30]] [.ae 0, .ae 1, .ae 2, .ae 3, .ae 4, .ae 5, .ae 6, .ae 7] 8 hP hG hN (by kernel_rfl) (by kernel_rfl) (by exact⟨fun _=>rfl,rfl,trivial⟩) (ca (dt h0) (ca h1 (ca h2 (ca (re n3) (ca h2 (ca h3 (ca (re n3) (ca h3 (ca (dt h4) (ca (dt h4) (ca (dt h4) (ca (dt h4) (ca h1 (ca (dt h4) (ca h2 (ca (re n3) (ca (dt h4) (ca h2 (ca (dt h4) (ca (dt h4) (ca (dt h4) (ca h3 (ca (re n3) (ca (dt h4) (ca h3 na))))))))))))))))))))))))) k
theorem u9 {X:Cx} {l_ n3:Nat} {g4:Nat→Int} {z1:Int} (hP:X.P=Tryz.prog) (hG:X.gl=GL) (hN:X.n0=8) (h0:z1<((n3:Nat):Int)) (h1:aj .i64 (z1-1)) (h2:(0:Int)≤(z1-1)∧(z1-1)<((n3:Nat):Int)) (h3:(0:Int)≤z1∧z1<((n3:Nat):Int)) (h4: ¬(g4 ((z1-1).toNat))<(g4 z1.toNat)) (h5:aj .i64 (z1+1)) (k:Ok X (cv l_ n3 g4 (z1+1))):
  Ok X (cv l_ n3 g4 z1):=
 Ok.bg 27 [tb, .draw 21 [] 0,fb,fb,fb,fb,fb,fb,fb,fb,fb,fb,fb,fb,fb,fb] [cN 34 [0,1,3]] [.ae 0, .ae 1, .ae 2, .ae 3, .ae 4, .ae 5, .ae 6, .ae 7] 8 hP hG hN (by kernel_rfl) (by kernel_rfl) (by exact⟨fun _=>rfl,rfl,trivial⟩) (ca (dt h0) (ca h1 (ca h2 (ca (re n3) (ca h2 (ca h3 (ca (re n3) (ca h3 (ca (df h4) (ca (df h4) (ca (df h4) (ca (df h4) (ca (df h4) (ca (df h4) (ca (df h4) (ca (df h4) (ca (df h4) (ca (df h4) (ca (df h4) (ca (df h4) (ca (df h4) (ca rf (ca h5 na))))))))))))))))))))))) k
noncomputable def mV (n3:Nat) (g4:Nat→Int):SC:=
 ⟨[⟨248,[none,none,none,none,none,none,none,none,none,none,none,none,none,none,none,none,none,none,none,none,none,none,none,none,none,none,none,none,none,none,none,none,none,none],[],{}⟩],[ri n3 g4,none,none,none,none,none,none,some (.box false [.sl 0 n3])]⟩
theorem u7 {X:Cx} {l_ n3:Nat} {g4:Nat→Int} {z1:Int} (hP:X.P=Tryz.prog) (hG:X.gl=GL) (hN:X.n0=8) (h0: ¬z1<((n3:Nat):Int)) (k:Ok X (mV n3 g4)):
  Ok X (cv l_ n3 g4 z1):=
 Ok.bg 10 [fb] [cN 34 []] [.ae 0, .ae 1, .ae 2, .ae 3, .ae 4, .ae 5, .ae 6, .ae 7] 8 hP hG hN (by kernel_rfl) (by kernel_rfl) (by exact⟨fun _=>rfl,rfl,trivial⟩) (ca (df h0) na) k
noncomputable def ij (l_:Nat) (n3:Nat) (g4:Nat→Int) (z1:Int) (z2:Bool):SC:=
 ⟨[⟨248,[some (.val (.func (.yield l_) #[] #[])),some (.ptr 7 0),none,some (I z1),none,none,none,none,none,none,none,none,none,none,none,none,none,none,none,none,some (B z2),none,none,none,none,none,none,none,none,none,none,some (B true),none,none],[.inRegion (aU Tryz.f248 [1,0,0,1,0,0,0]) [22,23], .code (aa Tryz.f248 [1,0,0,1,0,0,1]), .inBlock 1, .code (aa Tryz.f248 [1,0,0,1,1]), .inLoop (aa Tryz.f248 [1,0,0]), .inBlock 0],{}⟩],[ri n3 g4,none,none,none,none,none,none,some (.box false [.sl 0 n3])]⟩
theorem u6 {X:Cx} {l_ n3:Nat} {g4:Nat→Int} {z1:Int} {z2:Bool} (hP:X.P=Tryz.prog) (hG:X.gl=GL) (hN:X.n0=8) (h0:z2=true) (h1:aj .i64 (z1+1)) (k:Ok X (cv l_ n3 g4 (z1+1))):
  Ok X (ij l_ n3 g4 z1 z2):=
 Ok.bg 12 [tb,tb,fb] [cN 34 [0,1,3]] [.ae 0, .ae 1, .ae 2, .ae 3, .ae 4, .ae 5, .ae 6, .ae 7] 8 hP hG hN (by kernel_rfl) (by kernel_rfl) (by exact⟨fun _=>rfl,rfl,trivial⟩) (ca h0 (ca h0 (ca rf (ca h1 na)))) k
noncomputable def ig (l_:Nat) (x1:Int) (x2:Int) (x3:Int) (x4:Int) (x5:Int) (x6:Int) (x7:Int) (y0_:Int) (y1_:Int):SC:=
 ⟨[⟨196,[none,none,none,none,some (.ptr 1 0),some (.ptr 2 0),none,some (.ptr 3 0),some (.ptr 4 0),some (.ptr 5 0),some (.ptr 6 0),none,none,none,none,none,none,none,none,none,none,none,none,none,none,none,none,none,none,none,none,none,none,none,none,none,none,none,none,none,none,none,none,none,none,none,none,none,none,none,none,none,none,none,none,none,none,none,none,none,none,none,some (I y0_),some (I y1_),none,none,none,none,none,none,none,none,none,none,none,none,none,none,none,none,none,none,none,none,none,none,none,none,none,none,none,none,none,none,none,none,none,none],[.code (aa Tryz.f196 [1,1,1,0,1,0,0]), .beginRound, .code (aa Tryz.f196 [1,1,1,0,1,0,1])],⟨some l_,[],false⟩⟩],[none,some (.box false [I x1]),some (.box false [I x2]),some (.box false [I x3]),some (.box false [I x4,I x5]),some (.box false [.val .nilIface]),some (.box false [I x6,I x7]),none]⟩
noncomputable def mT (l_:Nat) (x1:Int) (x2:Int) (x3:Int) (x4:Int) (x5:Int) (x6:Int) (x7:Int) (z1:Int) (z2:Int):SC:=
 ⟨[⟨196,[none,none,none,none,some (.ptr 1 0),some (.ptr 2 0),none,some (.ptr 3 0),some (.ptr 4 0),some (.ptr 5 0),some (.ptr 6 0),some (I z1),some (I z2),none,none,none,none,none,none,none,none,none,none,none,none,none,none,none,none,none,none,none,none,none,none,none,none,none,none,none,none,none,none,none,none,none,none,none,none,none,none,none,none,none,none,none,none,none,none,none,none,none,none,none,none,none,none,none,none,none,none,none,none,none,none,none,none,none,none,none,none,none,none,none,none,none,none,none,none,none,none,none,none,none,none,none,none,none],[.beginRound, .code (aa Tryz.f196 [1,1,1,0,1,0,1])],⟨some l_,[],false⟩⟩],[none,some (.box false [I x1]),some (.box false [I x2]),some (.box false [I x3]),some (.box false [I x4,I x5]),some (.box false [.val .nilIface]),some (.box false [I x6,I x7]),none]⟩
theorem u5 {X:Cx} {l_:Nat} {x1 x2 x3 x4 x5 x6 x7 y0_ y1_:Int} (hP:X.P=Tryz.prog) (hG:X.gl=GL) (hN:X.n0=8) (k:Ok X (mT l_ x1 x2 x3 x4 x5 x6 x7 y0_ y1_)):
  Ok X (ig l_ x1 x2 x3 x4 x5 x6 x7 y0_ y1_):=
 Ok.bg 7 [] [cN 98 [4,5,7,8,9,10,11,12]] [.ae 0, .ae 1, .ae 2, .ae 3, .ae 4, .ae 5, .ae 6, .ae 7] 8 hP hG hN (by kernel_rfl) (by kernel_rfl) (by exact⟨rfl,rfl,rfl,rfl,rfl,rfl,trivial⟩) na k
noncomputable def ic (l_:Nat) (x1:Int) (x2:Int) (x3:Int) (x4:Int) (x5:Int) (x6:Int) (x7:Int) (z1:Int) (z2:Int):SC:=
 ⟨[⟨196,[none,none,none,none,some (.ptr 1 0),some (.ptr 2 0),none,some (.ptr 3 0),some (.ptr 4 0),some (.ptr 5 0),some (.ptr 6 0),some (I z1),some (I z2),none,none,none,none,none,none,none,none,none,none,none,none,none,none,none,none,none,none,none,none,none,none,none,none,none,none,none,none,none,none,none,none,none,none,none,none,none,none,none,none,none,none,none,none,none,none,none,none,none,none,none,none,none,none,none,none,none,none,none,none,none,none,none,none,none,none,none,none,none,none,none,none,none,none,none,none,none,none,none,none,none,none,none,none,none],[.code (aa Tryz.f196 [1,1,1,0,1,0,1])],⟨some l_,[],false⟩⟩],[none,some (.box false [I x1]),some (.box false [I x2]),some (.box false [I x3]),some (.box false [I x4,I x5]),some (.box false [.val .nilIface]),some (.box false [I x6,I x7]),none]⟩
noncomputable def mS (l_:Nat) (x1:Int) (x2:Int) (x3:Int) (x4:Int) (x5:Int) (x6:Int) (x7:Int) (z1:Int) (z2:Int) (z3:Int):SC:=
 ⟨[⟨196,[none,none,none,none,none,none,none,none,some (.ptr 4 0),some (.ptr 5 0),some (.ptr 6 0),none,none,none,none,none,none,none,none,none,none,none,none,none,none,none,none,none,none,none,none,none,none,none,none,none,none,none,none,none,none,none,none,none,none,none,none,none,none,none,none,none,none,none,none,none,none,none,none,none,none,none,none,none,none,none,none,none,none,none,none,none,none,none,none,none,none,none,none,none,none,none,none,none,none,none,none,some (.agg [I z1,I z2]),some (I z3),none,none,none,none,none,none,none,none,none],[.inRegion (aU Tryz.f196 [1,1,1,0,1,0,1,0,1,0,1,0]) [6,7], .code (aa Tryz.f196 [1,1,1,0,1,0,1,0,1,1]), .inBlock 2],⟨some l_,[],false⟩⟩],[none,some (.box false [I x1]),some (.box false [I x2]),some (.box false [I x3]),some (.box false [I x4,I x5]),some (.box false [.val .nilIface]),some (.box false [I x6,I x7]),none]⟩
theorem u4 {X:Cx} {l_:Nat} {x1 x2 x3 x4 x5 x6 x7 z1 z2 r9001 r9002 r9003 r9004 r9005 r9006:Int} (hP:X.P=Tryz.prog) (hG:X.gl=GL) (hN:X.n0=8) (h0:aj .i64 ((if z2<x2 then z2 else x2)-(if x1<z1 then z1 else x1))) (h1:aj .i64 (z2-z1)) (h2:aj .i64 (x3*(z2-z1))) (h3:S 191 [I (if 0<((if z2<x2 then z2 else x2)-(if x1<z1 then z1 else x1))then((if z2<x2 then z2 else x2)-(if x1<z1 then z1 else x1))else 0),I (x3*(z2-z1))] [] (.af [.agg [I r9001,I r9002],I r9003]) []) (h4:r9003=0) (h5:S 195 [.agg [I x6,I x7], .agg [I r9001,I r9002]] [] (.af [.agg [I r9004,I r9005],I r9006]) []) (k:Ok X (mS l_ x1 x2 x3 x4 x5 x6 x7 r9004 r9005 r9006)):
  Ok X (ic l_ x1 x2 x3 x4 x5 x6 x7 z1 z2):=
 Ok.bg 38 [.call [] (.af [.agg [I r9001,I r9002],I r9003]) [],tb, .call [] (.af [.agg [I r9004,I r9005],I r9006]) []] [cN 98 [8,9,10,87,88]] [.ae 0, .ae 1, .ae 2, .ae 3, .ae 4, .ae 5, .ae 6, .ae 7] 8 hP hG hN (by kernel_rfl) (by kernel_rfl) (by exact⟨rfl,rfl,rfl,rfl,rfl,rfl,trivial⟩) (ca h0 (ca h1 (ca h2 (ca h3 (ca (beq_iff_eq.2 h4) (ca h5 na)))))) k
noncomputable def mQ (l_:Nat) (x1:Int) (x2:Int) (x3:Int) (x4:Int) (x5:Int) (x6:Int) (x7:Int):SC:=
 ⟨[⟨196,[none,none,none,none,none,none,none,none,some (.ptr 4 0),some (.ptr 5 0),none,none,none,none,none,none,none,none,none,none,none,none,none,none,none,none,none,none,none,none,none,none,none,none,none,none,none,none,none,none,none,none,none,none,none,none,none,none,none,none,none,none,none,none,none,none,none,none,none,none,none,none,none,none,none,none,none,none,none,none,none,none,none,none,none,none,none,none,none,none,none,none,none,none,none,none,none,none,none,none,none,none,none,none,none,none,none,none],[],⟨some l_,[],false⟩⟩],[none,some (.box false [I x1]),some (.box false [I x2]),some (.box false [I x3]),some (.box false [I x4,I x5]),some (.box false [.val .nilIface]),some (.box false [I x6,I x7]),none]⟩
noncomputable def gG (l_:Nat) (x1:Int) (x2:Int) (x3:Int) (x4:Int) (x5:Int) (x6:Int) (x7:Int) (z3:Int):SC:=
 ⟨[⟨196,[none,none,none,none,none,none,none,none,some (.ptr 4 0),some (.ptr 5 0),none,none,none,none,none,none,none,none,none,none,none,none,none,none,none,none,none,none,none,none,none,none,none,none,none,none,none,none,none,none,none,none,none,none,none,none,none,none,none,none,none,none,none,none,none,none,none,none,none,none,none,none,none,none,none,none,none,none,none,none,none,none,none,none,none,none,none,none,none,none,none,none,none,none,none,none,none,none,some (I z3),none,none,none,none,none,none,none,none,none],[.inRegion (aU Tryz.f196 [1,1,1,0,1,0,1,0,1,0,1,0]) [7], .code (aa Tryz.f196 [1,1,1,0,1,0,1,0,1,1]), .inBlock 2],⟨some l_,[],false⟩⟩],[none,some (.box false [I x1]),some (.box false [I x2]),some (.box false [I x3]),some (.box false [I x4,I x5]),some (.box false [.val .nilIface]),some (.box false [I x6,I x7]),none]⟩
theorem u3 {X:Cx} {l_:Nat} {x1 x2 x3 x4 x5 x6 x7 z3:Int} (hP:X.P=Tryz.prog) (hG:X.gl=GL) (hN:X.n0=8) (h0:z3=0) (k:Ok X (mQ l_ x1 x2 x3 x4 x5 x6 x7)):
  Ok X (gG l_ x1 x2 x3 x4 x5 x6 x7 z3):=
 Ok.bg 10 [fb] [cN 98 [8,9]] [.ae 0, .ae 1, .ae 2, .ae 3, .ae 4, .ae 5, .ae 6, .ae 7] 8 hP hG hN (by kernel_rfl) (by kernel_rfl) (by exact⟨rfl,rfl,rfl,rfl,rfl,rfl,trivial⟩) (ca (bne_eq_false_iff_eq.2 h0) na) k
noncomputable def gH (d_:Nat) (x4:Int) (x5:Int) (x6:Int) (x7:Int):SC:=
 ⟨[⟨196,[none,none,none,none,none,none,none,none,some (.ptr 4 0),some (.ptr 5 0),some (.ptr 6 0),none,none,none,none,none,none,none,none,none,none,none,none,none,none,none,none,none,none,none,none,none,none,none,none,none,none,none,none,none,none,none,none,none,none,none,none,none,none,none,none,none,none,none,none,none,none,none,none,none,none,none,none,none,none,none,none,none,none,none,none,none,none,none,none,none,none,none,none,none,none,none,none,none,none,none,none,none,none,none,none,none,none,none,none,none,none,none],[.inBlock 1, .code (aa Tryz.f196 [1,1,1,1])],⟨none,[{target:= .collected d_,args:= #[]}],false⟩⟩],[none,none,none,none,some (.box false [I x4,I x5]),some (.box false [.val .nilIface]),some (.box false [I x6,I x7]),none]⟩
noncomputable def kD (d_:Nat) (x4:Int) (x5:Int) (x6:Int) (x7:Int) (z1:Int) (z2:Int):SC:=
 ⟨[⟨196,[none,none,none,none,none,none,none,none,some (.ptr 4 0),some (.ptr 5 0),none,none,none,none,none,none,none,none,none,none,none,none,none,none,none,none,none,none,none,none,none,none,none,none,none,none,none,none,none,none,none,none,none,none,none,none,none,none,none,none,none,none,none,none,none,none,none,none,none,none,none,none,none,none,none,none,none,none,none,none,none,none,none,none,none,none,none,none,none,none,none,none,none,none,none,none,none,none,none,none,none,none,none,none,none,none,none,some (.agg [I z1,I z2])],[.inRegion (aU Tryz.f196 [1,1,1,1,0]) [1,2], .code (aa Tryz.f196 [1,1,1,1,1])],⟨none,[{target:= .collected d_,args:= #[]}],false⟩⟩],[none,none,none,none,some (.box false [I x4,I x5]),some (.box false [.val .nilIface]),some (.box false [I x6,I x7]),none]⟩
theorem tL {X:Cx} {d_:Nat} {x4 x5 x6 x7:Int} (hP:X.P=Tryz.prog) (hG:X.gl=GL) (hN:X.n0=8) (k:Ok X (kD d_ x4 x5 x6 x7 x6 x7)):
  Ok X (gH d_ x4 x5 x6 x7):=
 Ok.bg 4 [] [cN 98 [8,9,97]] [.ae 0, .ae 1, .ae 2, .ae 3, .ae 4, .ae 5, .ae 6, .ae 7] 8 hP hG hN (by kernel_rfl) (by kernel_rfl) (by exact⟨rfl,rfl,rfl,trivial⟩) na k
noncomputable def fM (d_:Nat) (x4:Int) (x5:Int) (x6:Int) (x7:Int):SC:=
 ⟨[⟨196,[none,none,none,none,none,none,none,none,some (.ptr 4 0),some (.ptr 5 0),none,none,none,none,none,none,none,none,none,none,none,none,none,none,none,none,none,none,none,none,none,none,none,none,none,none,none,none,none,none,none,none,none,none,none,none,none,none,none,none,none,none,none,none,none,none,none,none,none,none,none,none,none,none,none,none,none,none,none,none,none,none,none,none,none,none,none,none,none,none,none,none,none,none,none,none,none,none,none,none,none,none,none,none,none,none,none,none],[.inRegion (aU Tryz.f196 [1,1,1,1,0]) [], .code (aa Tryz.f196 [1,1,1,1,1])],⟨none,[{target:= .collected d_,args:= #[]}],false⟩⟩],[none,none,none,none,some (.box false [I x4,I x5]),some (.box false [.val .nilIface]),some (.box false [I x6,I x7]),none]⟩
noncomputable def kC (d_:Nat) (x4:Int) (x5:Int) (x6:Int) (x7:Int):SC:=
 ⟨[⟨196,[none,none,none,none,none,none,none,none,some (.ptr 4 0),some (.ptr 5 0),none,none,none,none,none,none,none,none,none,none,none,none,none,none,none,none,none,none,none,none,none,none,none,none,none,none,none,none,none,none,none,none,none,none,none,none,none,none,none,none,none,none,none,none,none,none,none,none,none,none,none,none,none,none,none,none,none,none,none,none,none,none,none,none,none,none,none,none,none,none,none,none,none,none,none,none,none,none,none,none,none,none,none,none,none,none,none,none],[.code (aa Tryz.f196 [1,1,1,1,1])],⟨none,[{target:= .collected d_,args:= #[]}],false⟩⟩],[none,none,none,none,some (.box false [I x4,I x5]),some (.box false [.val .nilIface]),some (.box false [I x6,I x7]),none]⟩
theorem tJ {X:Cx} {d_:Nat} {x4 x5 x6 x7:Int} (hP:X.P=Tryz.prog) (hG:X.gl=GL) (hN:X.n0=8) (k:Ok X (kC d_ x4 x5 x6 x7)):
  Ok X (fM d_ x4 x5 x6 x7):=
 Ok.bg 1 [] [cN 98 [8,9]] [.ae 0, .ae 1, .ae 2, .ae 3, .ae 4, .ae 5, .ae 6, .ae 7] 8 hP hG hN (by kernel_rfl) (by kernel_rfl) (by exact⟨rfl,rfl,rfl,trivial⟩) na k
def Em (n:Nat) (g:Nat→Int) (a b f:Int) (q:Rat):List (Option Vw):=
 [some (.row false 3 n 1 (fun i=>[I (g i)])),some (.box true [I a]),some (.box true [I b]),some (.box true [I f]),some (.box true [I 0,I 0]),some (.box true [.val .nilIface]),some (.box true [I q.num,I (q.den:Int)]),some (.box true [.sl 0 n])]
def LB (n:Nat) (g:Nat→Int) (a b f:Int) (q:Rat):List (Option Vw):=
 [some (.row false 3 n 1 (fun i=>[I (g i)])),some (.box true [I a]),some (.box true [I b]),some (.box true [I f]),some (.box true [I q.num,I (q.den:Int)]),some (.box true [.val .nilIface]),some (.box true [I q.num,I (q.den:Int)]),some (.box true [.sl 0 n])]
noncomputable def Kj:List (Option SV):=match (fz 0 (fun _=>0) 0 0 0 0 0 0 0).bo with
 |fr::_=>fr.tmps
 |[]=>[]
noncomputable def hO (T0:Array Value) (D:Nat) (st:LoopState):Loop:=
 {state:=st,pending:=none,fn:=196,tmps:=T0,params:= #[62,63],assign:=aa Tryz.f196 [1,1,1,0,1,0,0],body:=aa Tryz.f196 [1,1,1,0,1,0,1],defers:=D}
theorem tC {X:Cx} {n F:Nat} {g:Nat→Int} {a b:Int} {T0:Array Value} {D l:Nat} {θ0:Th} {cs:List Frame} {k2:List Item} (hP:X.P=Tryz.prog) (hG:X.gl=GL)
  (hf:1≤F) (hf2:F≤12) (hn:n≤1204) (hn2:2≤n) (hs: ∀ i,i<n-1→g i≤g (i+1)) (hd: ∀ i,i<n→1≤g i∧g i≤3652059) (ha:1≤a∧a≤3652059) (hb:1≤b∧b≤3652059)
  (hT0: ∀ θ',az 8 θ0 θ'→eV θ' Kj T0) (hl:X.base≤l) (hDl:D≠l)
  (hend: ∀ θ W,az 8 θ0 θ→Mem X θ (Em n g a b (F:Int) (cA a b F g (n-1))) W→W.heap[D]? =some (.deferred (some []))→aJ X (au ⟨none,[{target:= .collected D,args:= #[]}],false⟩ 196 T0 k2) cs W):
  ∀ (m k:Nat) (θ:Th) (W:World),n-1-k=m→k≤n-1→az 8 θ0 θ→Mem X θ (Em n g a b (F:Int) (cA a b F g k)) W→W.heap[l]? =some (.loop (hO T0 D .ready))→W.heap[D]? =some (.deferred (some []))→
    Ok (X.C3 θ 8 W (au ⟨none,[{target:= .collected D,args:= #[]}],false⟩ 196 T0 (.inRangeFunc l::k2)::cs)) (cv l n g ((k:Int)+1))
 |0,k,θ,W,hm,hk,hθ,hM,hL,hD=>by
  have:k=n-1:=by omega
  subst this
  refine u7 hP hG rfl (by omega) ?_
  unfold mV
  refine gx hM rfl (fun θ2 T w2 hM2 hs2 hb2 hT2=> ?_)
  have hL2:=kept hL hb2
  have hD2:=kept hD hb2
  refine aJ.sr (F:=Tryz.f248) (.inl rfl) (by rw[hP];kernel_rfl) (by kernel_rfl) hL2 (by simp[hO]) rfl ?_
  exact hend θ2 _ (hθ.trans hs2) (hM2.putObj hL2 rfl hl) ((World.putObj_heap_other hDl).trans hD2)
 |m+1,k,θ,W,hm,hk,hθ,hM,hL,hD=>by
  have e1:(((k:Int)+1)-1).toNat=k:=by omega
  have e2:((k:Int)+1).toNat=k+1:=by omega
  have d1:=hd k (by omega)
  have d2:=hd (k+1) (by omega)
  have hle:=hs k (by omega)
  by_cases hlt:g k<g (k+1)
  ·refine u_ hP hG rfl (by omega) (by simp only[aj];omega) (by omega) (by omega) (by rw[e1,e2];exact hlt) ?_
   rw[e1,e2]
   unfold mW
   refine gx hM rfl (fun θ2 T2 w2 hM2 hs2 hb2 hT2=> ?_)
   have hL2:=kept hL hb2
   have hD2:=kept hD hb2
   have hθ2:=hθ.trans hs2
   have t2:=hT2 θ2 (az.refl _ _)
   have h21:((aU Tryz.f248 [1,0,0,1,0,0,0])[21]?).map (fun o=>(o.op,o.guard,o.dst))=some (.call ⟨.value (.tmp 21), #[.tmp 26, .tmp 30], #[3,3]⟩,some (10,true),some 31):=by kernel_rfl
   rw[Option.map_eq_some_iff]at h21
   obtain⟨o,ho,ho2⟩:=h21
   simp only[Prod.mk.injEq]at ho2
   obtain⟨hop,hgd,hdst⟩:=ho2
   have hw:=xn (ops:=aU Tryz.f248 [1,0,0,1,0,0,0]) (T:=T2) (t:=true) hgd (d:=20) (by kernel_rfl) ((t2.2 20 _ rfl).trans (by rw[decide_eq_true hlt];rfl))
   have hT2get: ∀ j v,T2[j]? =some v→(Act.mk T2 []).eval (.tmp j)=v:=fun j v hj=>by simp[Act.eval,Array.getD_eq_getD_getElem?,hj]
   have hst:=rp (P:=X.P) (rx:={}) (fn:=248) (k:=[.code (aa Tryz.f248 [1,0,0,1,0,0,1]), .inBlock 1, .code (aa Tryz.f248 [1,0,0,1,1]), .inLoop (aa Tryz.f248 [1,0,0]), .inBlock 0])
    (cs:=au ⟨none,[{target:= .collected D,args:= #[]}],false⟩ 196 T0 (.inRangeFunc l::k2)::cs) (rest:=[22,23]) ho hw
    (o8 (P:=X.P) (w:=w2) (l:=l) (r:=hO T0 D .ready) (vs:= #[.int .i64 (g k), .int .i64 (g (k+1))]) hop (hT2get _ _ (t2.2 21 _ rfl))
     (by simp only[List.map_toArray,List.map_cons,List.map_nil];rw[hT2get _ _ (t2.2 26 _ rfl),hT2get _ _ (t2.2 30 _ rfl)];rfl) hL2 rfl)
   have hfold:(((hO T0 D .ready).params.zip #[Value.int .i64 (g k),Value.int .i64 (g (k+1))]).foldl (fun tmps (t,a)=>tmps.setIfInBounds t a) (hO T0 D .ready).tmps)=(T0.setIfInBounds 62 (.int .i64 (g k))).setIfInBounds 63 (.int .i64 (g (k+1))):=by simp[hO]
   rw[hfold]at hst
   refine aJ.head hst ?_
   have hT3: ∀ θ',az 8 θ2 θ'→eV θ' (dX (dX Kj (some 62) (I (g k))) (some 63) (I (g (k+1)))) ((((T0.setIfInBounds 62 (.int .i64 (g k))).setIfInBounds 63 (.int .i64 (g (k+1)))))):=fun θ' hs'=>
    ((hT0 θ' (hθ2.trans hs')).set (v:=I (g k)) (r:= .int .i64 (g k)) (d:=some 62) (ds:=[]) rfl).set (v:=I (g (k+1))) (r:= .int .i64 (g (k+1))) (d:=some 63) (ds:=[]) rfl
   have hgo:Ok (X.C3 θ2 8 w2 (au {} 248 T2 (.inRegion (aU Tryz.f248 [1,0,0,1,0,0,0]) [21,22,23]::[.code (aa Tryz.f248 [1,0,0,1,0,0,1]), .inBlock 1, .code (aa Tryz.f248 [1,0,0,1,1]), .inLoop (aa Tryz.f248 [1,0,0]), .inBlock 0])::au ⟨none,[{target:= .collected D,args:= #[]}],false⟩ 196 T0 (.inRangeFunc l::k2)::cs))
     (ig l a b (F:Int) 0 0 (cA a b F g k).num ((cA a b F g k).den:Int) (g k) (g (k+1))):=by
    refine u5 hP hG rfl ?_
    unfold mT
    refine gx hM2 rfl (fun θ3 T3 w3 hM3 hs3 hb3 hT3'=> ?_)
    have hL3:=kept hL2 hb3
    have hD3:=kept hD2 hb3
    have hθ3:=hθ2.trans hs3
    refine aJ.beginRound hL3 rfl ?_
    have hM4:=hM3.putObj (o':= .loop {hO T0 D .ready with state:= .busy}) hL3 rfl hl
    have hlt3:=(Array.getElem?_eq_some_iff.1 hL3).1
    have hL4:(w3.putObj l (.loop {hO T0 D .ready with state:= .busy})).heap[l]? =some (.loop {hO T0 D .ready with state:= .busy}):=World.putObj_heap_same hlt3
    have hD4:(w3.putObj l (.loop {hO T0 D .ready with state:= .busy})).heap[D]? =some (.deferred (some [])):=(World.putObj_heap_other hDl).trans hD3
    generalize w3.putObj l (.loop {hO T0 D .ready with state:= .busy})=w4 at*
    have hLb:F*(g (k+1)-g k).toNat≤12*3652058:=Nat.mul_le_mul hf2 (by omega)
    have hL0:F*(g (k+1)-g k).toNat≠0:=Nat.mul_ne_zero (by omega) (by omega)
    have hFL:(F:Int)*(g (k+1)-g k)=((F*(g (k+1)-g k).toNat:Nat):Int):=by
     grind
    have hnew:ab Tryz.prog GL 191 [I (ov a b (g k) (g (k+1))),I ((F:Int)*(g (k+1)-g k))] [] (RQ (term a b F g k)) []:=by
     obtain⟨o',ho'⟩: ∃ o':Nat,ov a b (g k) (g (k+1))=(o':Int):=Int.eq_ofNat_of_zero_le (DN _ _ _ _)
     have hol:=DO (a:=a) (b:=b) (Int.le_of_lt hlt)
     have h1:= @Iq _ o' _ hL0 (by omega) (by omega)
     rw[hFL]
     unfold term
     simp_all
    have hadd:=zA hf hf2 hn hs hd a b (k:=k) (by omega)
    have hbody:Ok (X.C3 θ3 8 w4 (au {} 248 T2 (.inRegion (aU Tryz.f248 [1,0,0,1,0,0,0]) [21,22,23]::[.code (aa Tryz.f248 [1,0,0,1,0,0,1]), .inBlock 1, .code (aa Tryz.f248 [1,0,0,1,1]), .inLoop (aa Tryz.f248 [1,0,0]), .inBlock 0])::au ⟨none,[{target:= .collected D,args:= #[]}],false⟩ 196 T0 (.inRangeFunc l::k2)::cs))
      (ic l a b (F:Int) 0 0 (cA a b F g k).num ((cA a b F g k).den:Int) (g k) (g (k+1))):=by
     refine u4 hP hG rfl (by simp only[aj];split<;>split<;>omega) (by simp only[aj];omega) (by rw[hFL];simp only[aj];omega) hnew rfl hadd ?_
     unfold mS
     refine gx hM4 rfl (fun θ5 T5 w5 hM5 hs5 hb5 hT5=> ?_)
     have hL5:=kept hL4 hb5
     have hD5:=kept hD4 hb5
     have hθ5:=hθ3.trans hs5
     have h6:((aU Tryz.f196 [1,1,1,0,1,0,1,0,1,0,1,0])[6]?).map (fun o=>(o.op,o.guard,o.dst))=some (.store 121 (.tmp 10) (.tmp 87),none,none):=by kernel_rfl
     rw[Option.map_eq_some_iff]at h6
     obtain⟨o6,ho6,ho6'⟩:=h6
     simp only[Prod.mk.injEq]at ho6'
     refine aJ.store hM5 hT5 ho6 ho6'.2.1 ho6'.2.2 ho6'.1 rfl rfl (t:=6) (j:=0) rfl (by rw[hP];kernel_rfl) rfl rfl (by simp[cZ]) rfl (fun w6 hM6 hk6=> ?_)
     have hL6:=hk6 l _ hL5 rfl
     have hD6:=hk6 D _ hD5 rfl
     have hM6':Mem X θ5 (Em n g a b (F:Int) (cA a b F g (k+1))) w6:=hM6
     have hrest:Ok (X.C3 θ5 8 w6 (au {} 248 T2 (.inRegion (aU Tryz.f248 [1,0,0,1,0,0,0]) [21,22,23]::[.code (aa Tryz.f248 [1,0,0,1,0,0,1]), .inBlock 1, .code (aa Tryz.f248 [1,0,0,1,1]), .inLoop (aa Tryz.f248 [1,0,0]), .inBlock 0])::au ⟨none,[{target:= .collected D,args:= #[]}],false⟩ 196 T0 (.inRangeFunc l::k2)::cs))
       (gG l a b (F:Int) 0 0 (cA a b F g (k+1)).num ((cA a b F g (k+1)).den:Int) 0):=by
      refine u3 hP hG rfl rfl ?_
      unfold mQ
      refine gx hM6' rfl (fun θ7 T7 w7 hM7 hs7 hb7 hT7=> ?_)
      have hL7:=kept hL6 hb7
      have hD7:=kept hD6 hb7
      have hθ7:=hθ5.trans hs7
      refine aJ.endRound hL7 ho ?_
      have hlt7:=(Array.getElem?_eq_some_iff.1 hL7).1
      have hM8:=hM7.putObj (o':= .loop (hO T0 D .ready)) hL7 rfl hl
      have hL8:(w7.putObj l (.loop (hO T0 D .ready))).heap[l]? =some (.loop (hO T0 D .ready)):=World.putObj_heap_same hlt7
      have hD8:(w7.putObj l (.loop (hO T0 D .ready))).heap[D]? =some (.deferred (some [])):=(World.putObj_heap_other hDl).trans hD7
      have hit:Ok (X.C3 θ7 8 (w7.putObj l (.loop (hO T0 D .ready))) (au ⟨none,[{target:= .collected D,args:= #[]}],false⟩ 196 T0 (.inRangeFunc l::k2)::cs)) (ij l n g ((k:Int)+1) true):=by
       refine u6 hP hG rfl rfl (by simp only[aj];omega) ?_
       have:=tC hP hG hf hf2 hn hn2 hs hd ha hb hT0 hl hDl hend m (k+1) θ7 _ (by omega) (by omega) hθ7 hM8 hL8 hD8
       simp_all
      unfold ij at hit
      have hT2': ∀ θ',az 8 θ7 θ'→eV θ' _ (((Act.mk T2 []).put o.dst (.bool true)).tmps):=fun θ' hs'=>
       (hT2 θ' (hs3.trans (hs5.trans (hs7.trans hs')))).set (v:=B true) (r:= .bool true) (d:=o.dst) (ds:=[]) rfl
      refine e8 hM8 ?_ (fun θ' hs'=>(hT2' θ' hs').sub ?_) hit
      ·simp[gy,Em,Vw.ro]
      ·rw[hdst];simp[dX,kK,hlt]
     unfold gG at hrest
     refine e8 hM6' ?_ (fun θ' hs'=>(hT5 θ' hs').sub ?_) hrest
     ·simp[gy,Em,Vw.ro]
     ·simp[kK]
    unfold ic at hbody
    refine e8 hM4 ?_ (fun θ' hs'=>(hT3' θ' hs').sub ?_) hbody
    ·simp[gy,Em,Vw.ro]
    ·simp[kK]
   unfold ig at hgo
   refine e8 hM2 ?_ (fun θ' hs'=>(hT3 θ' hs').sub ?_) hgo
   ·simp[gy,Em,Vw.ro]
   ·unfold Kj fz
    simp[dX,kK]
  ·refine u9 hP hG rfl (by omega) (by simp only[aj];omega) (by omega) (by omega) (by rw[e1,e2];exact hlt) (by simp only[aj];omega) ?_
   have hq:cA a b F g (k+1)=cA a b F g k:=by
    show cA a b F g k+term a b F g k=_
    unfold term;rw[if_neg hlt,Rat.add_zero]
   have:=tC hP hG hf hf2 hn hn2 hs hd ha hb hT0 hl hDl hend m (k+1) θ W (by omega) (by omega) hθ (by rw[hq];exact hM) hL hD
   simp_all
theorem Lz {n:Nat} {g:Nat→Int} {a b f:Int} (hda:ai a=true) (hdb:ai b=true) (hab: ¬a>b) (hm:iR n g f=true) (h0: ¬a<g 0) (h1: ¬b>g (n-1)):
  ab Tryz.prog GL 196 [I a,I b, .sl 0 n,I f] [some (.row false 3 n 1 (fun i=>[I (g i)]))] (.af [QV (cA a b f.toNat g (n-1)), .val .nilIface]) []:=by
 obtain⟨m1,m2,m3,m4,m5,m6,m7⟩:=qQ hm
 obtain⟨F,rfl⟩: ∃ F:Nat,f=(F:Int):=Int.eq_ofNat_of_zero_le (by omega)
 rw[Int.toNat_natCast]
 have e:(((n:Nat):Int)-1).toNat=n-1:=by omega
 refine ab.of (by kernel_rfl) rfl ⟨fun i=>rfl,trivial⟩ rfl (fun X hX=> ?_)
 refine zR hX (pJ a) hda (pJ b) hdb hab Gg hm (by omega) h0 (by simp only[aj];omega) (by omega) (by rw[e];exact h1) ?_
 unfold ai at hda hdb
 rw[decide_eq_true_eq]at hda hdb
 intro θ fr ms w hh
 have hM0:Mem X θ (Em n g a b (F:Int) 0) w:=hh.mem
 unfold fz at hh
 obtain⟨T,rfl,hpre,hrest⟩:=hh.pre
 have hms:ms=[]:=by cases hrest θ (az.refl _ _);rfl
 subst hms
 show aJ X _ X.cs w
 have hT: ∀ θ',az 8 θ θ'→eV θ' Kj T:=fun θ' hs'=>(hpre.inv θ' hs').2
 have hrf:aa Tryz.f196 [1,1,1,0,1,0]= .rangeFunc (.tmp 61) #[62,63] (aa Tryz.f196 [1,1,1,0,1,0,0]) (aa Tryz.f196 [1,1,1,0,1,0,1]):=by kernel_rfl
 rw[hrf]
 have hg61:(Act.mk T []).eval (.tmp 61)= .func (.func 248) #[] #[den θ (.ptr 7 0)]:=by
  have:=(hT θ (az.refl _ _)).2 61 (.fn (.func 248) [] [.ptr 7 0]) rfl
  simp[Act.eval,Array.getD_eq_getD_getElem?,this,den,ax]
 refine aJ.rangeFunc (F:=Tryz.f248) (b:=aa Tryz.f248 []) hg61 (by rw[hX.P];kernel_rfl) (by kernel_rfl) (by kernel_rfl) ?_
 have hM1:=(hM0.alloc (.deferred (some []))).alloc (.loop {state:= .ready,pending:=none,fn:=196,tmps:=T,params:= #[62,63],assign:=aa Tryz.f196 [1,1,1,0,1,0,0],body:=aa Tryz.f196 [1,1,1,0,1,0,1],defers:=w.heap.size})
 have hL1:((w.alloc (.deferred (some []))).alloc (.loop (hO T w.heap.size .ready))).heap[w.heap.size+1]? =some (.loop (hO T w.heap.size .ready)):=by
  have:=World.alloc_heap_new (w.alloc (.deferred (some []))) (.loop (hO T w.heap.size .ready));rwa [World.size_alloc]at this
 have hD1:((w.alloc (.deferred (some []))).alloc (.loop (hO T w.heap.size .ready))).heap[w.heap.size]? =some (.deferred (some [])):=by
  exact(Go.RowKit.Below.heap_alloc _ _ _ (by simp)).trans (World.alloc_heap_new w _)
 have hbase:=hM0.sz
 have hend: ∀ θ2 W,az 8 θ θ2→Mem X θ2 (Em n g a b (F:Int) (cA a b F g (n-1))) W→W.heap[w.heap.size]? =some (.deferred (some []))→
   aJ X (au ⟨none,[{target:= .collected w.heap.size,args:= #[]}],false⟩ 196 T [.inBlock 1, .code (aa Tryz.f196 [1,1,1,1])]) X.cs W:=by
  intro θ2 W hs2 hM2 hD2
  have hgo:Ok (X.C3 θ2 8 W X.cs) (gH w.heap.size 0 0 (cA a b F g (n-1)).num ((cA a b F g (n-1)).den:Int)):=by
   refine tL hX.P hX.gl rfl ?_
   unfold kD
   refine gx hM2 rfl (fun θ3 T3 w3 hM3 hs3 hb3 hT3=> ?_)
   have hD3:=kept hD2 hb3
   have h1:((aU Tryz.f196 [1,1,1,1,0])[1]?).map (fun o=>(o.op,o.guard,o.dst))=some (.store 121 (.tmp 8) (.tmp 97),none,none):=by kernel_rfl
   rw[Option.map_eq_some_iff]at h1
   obtain⟨o1,ho1,ho1'⟩:=h1
   simp only[Prod.mk.injEq]at ho1'
   refine aJ.store hM3 hT3 ho1 ho1'.2.1 ho1'.2.2 ho1'.1 rfl rfl (t:=4) (j:=0) rfl (by rw[hX.P];kernel_rfl) rfl rfl (by simp[cZ]) rfl (fun w4 hM4 hk4=> ?_)
   have hD4:=hk4 _ _ hD3 rfl
   have hM4':Mem X θ3 (LB n g a b (F:Int) (cA a b F g (n-1))) w4:=hM4
   have h2:((aU Tryz.f196 [1,1,1,1,0])[2]?).map (fun o=>(o.op,o.guard,o.dst))=some (.store 209 (.tmp 9) (.const .nilIface),none,none):=by kernel_rfl
   rw[Option.map_eq_some_iff]at h2
   obtain⟨o2,ho2,ho2'⟩:=h2
   simp only[Prod.mk.injEq]at ho2'
   refine aJ.store hM4' hT3 ho2 ho2'.2.1 ho2'.2.2 ho2'.1 rfl rfl (t:=5) (j:=0) rfl (by rw[hX.P];kernel_rfl) rfl rfl (by simp[cZ]) rfl (fun w5 hM5 hk5=> ?_)
   have hD5:=hk5 _ _ hD4 rfl
   have hM5':Mem X θ3 (LB n g a b (F:Int) (cA a b F g (n-1))) w5:=hM5
   have hlast:Ok (X.C3 θ3 8 w5 X.cs) (fM w.heap.size (cA a b F g (n-1)).num ((cA a b F g (n-1)).den:Int) (cA a b F g (n-1)).num ((cA a b F g (n-1)).den:Int)):=by
    refine tJ hX.P hX.gl rfl ?_
    unfold kC
    refine gx hM5' rfl (fun θ6 T6 w6 hM6 hs6 hb6 hT6=> ?_)
    have hD6:=kept hD5 hb6
    have hM7:=hM6.putObj (o':= .deferred none) hD6 rfl hbase
    have hbel:Go.RowKit.Below X.base X.w0 (w6.putObj w.heap.size (.deferred none)):=hM7.sb
    refine aJ.leave (v:=den θ6 (.af [QV (cA a b F g (n-1)), .val .nilIface])) (.inr ⟨_,rfl⟩) hD6 hX.ce hX.f0.symm ⟨Tryz.f196,by rw[hX.P];kernel_rfl, ?_⟩ (hX.R _ _ hbel ⟨fun _=>⟨none,0,0⟩,fun θ' hs' _=>⟨rfl, ?_⟩⟩)
    ·rw[hX.P]
     exact rA (P:=Tryz.prog) (gl:=GL) (fn:=Tryz.f196) (vs:=[QV (cA a b F g (n-1)), .val .nilIface]) (hM7.hp (az.refl _ _)) (by rw[←hX.gl];exact hM7.gX) (hT6 θ6 (az.refl _ _)) (by kernel_rfl)
    ·have hi:=hX.init θ' hs'
     have hbw:Go.RowKit.Below X.w0.heap.size X.w0 (w6.putObj w.heap.size (.deferred none)):=by rw[←hX.base];exact hbel
     exact hi.below hbw
   unfold fM at hlast
   refine e8 hM5' ?_ (fun θ' hs'=>(hT3 θ' hs').sub ?_) hlast
   ·simp[gy,LB,Vw.ro]
   ·simp[kK]
  unfold gH at hgo
  refine e8 hM2 ?_ (fun θ' hs'=>(hT θ' (hs2.trans hs')).sub ?_) hgo
  ·simp[gy,Em,Vw.ro]
  ·unfold Kj fz
   simp[kK]
 have hit:=tC (k2:=[.inBlock 1, .code (aa Tryz.f196 [1,1,1,1])]) hX.P hX.gl (by omega) (by omega) m2 m1 m6 m5 hda hdb hT (Nat.le_succ_of_le hbase) (by omega) hend (n-1) 0 θ _ (by omega) (by omega) (az.refl _ _) hM1 hL1 hD1
 have hita:=va (X:=X.C3 θ 8 ((w.alloc (.deferred (some []))).alloc (.loop (hO T w.heap.size .ready))) (au ⟨none,[{target:= .collected w.heap.size,args:= #[]}],false⟩ 196 T (.inRangeFunc (w.heap.size+1)::[.inBlock 1, .code (aa Tryz.f196 [1,1,1,1])])::X.cs)) hX.P hX.gl rfl hit
 unfold pe at hita
 refine e8 hM1 ?_ (fun θ' hs'=> ?_) hita
 ·simp[gy,Em,Vw.ro]
 ·have h:=eV.enter (θ:=θ') (args:=[.val (.func (.yield (w.heap.size+1)) #[] #[]), .ptr 7 0]) (vals:= #[.func (.yield (w.heap.size+1)) #[] #[]]++ #[den θ (.ptr 7 0)]) (k:=Tryz.f248.ntmps-2) (by
   simp only[ax,den]
   rw[hs' 7 (by show 7<8;omega)]
   rfl)
  exact h
end Go.Proofs.YtelidogcomffkaaGreatDoor
set_option linter.unusedVariables false
set_option linter.unusedSimpArgs false
namespace Go.Proofs.YtelidogcomffkaaGreatDoor
open Go Go.RowKit Go.Extern.Stop Go.Stop Go.Extern
theorem Jo (t:Value) (w:World):
  Calls Tryz.prog 138 #[.nilIface,t] w fun e w'=>e= .returned (.bool false)∧w'=w:=by
 go_enter Tryz.func138,Tryz.ntmps138
 go_wp2
 go_ret
 exact⟨rfl,rfl⟩
theorem As.qG (t:Addr) (w:World):(ReflectliteValue.unpack (.iface 268 (.pointer (some t)))).run Tryz.prog w
  = .ok (.agg #[.pointer (some ⟨9,268,none⟩), .pointer (some ⟨w.heap.size,0,none⟩), .int .u64 150]) (w.alloc (.cells #[.pointer (some t)] 268)):=by kernel_rfl
theorem As.type27 (a:Addr) (w:World):(ReflectliteValue.methodAny (ReflectliteValue.valueError "reflectlite.Value.Type" 0) (fun t _ _ _=>ReflectliteType.toType t) #[.agg #[.pointer (some ⟨9,268,none⟩), .pointer (some a), .int .u64 150]]).run Tryz.prog w
  = .ok (.iface 287 (.agg #[.pointer (some ⟨9,268,none⟩)])) w:=by kernel_rfl
theorem As.pE (h:Value) (w:World):(Go.method 474 287 (.agg #[h]) "Kind").run Tryz.prog w= .ok (283,h) w:=by kernel_rfl
theorem As.zP (w:World):((ReflectliteType.abiMethod fun t=>(fun a:Nat=>Value.int IntKind.u8 (a:Int)) <$> Rtype.kind t) #[.pointer (some ⟨9,268,none⟩)]).run Tryz.prog w= .ok (.int .u8 22) w:=by kernel_rfl
theorem As.zQ (w:World):((ReflectliteType.abiMethod fun t=>(fun a:Nat=>Value.int IntKind.u8 (a:Int)) <$> Rtype.kind t) #[.pointer (some ⟨9,267,none⟩)]).run Tryz.prog w= .ok (.int .u8 25) w:=by kernel_rfl
theorem Mb (z:Sem Value) (f:TypeId→Addr→Nat→Nat→Sem Value) (v:Value):
  ReflectliteValue.method z f #[v]=(do match←ReflectliteValue.parts v with|none=>z|some (t,a,fl)=>f t a fl (fl%32)):=rfl
theorem As.qk (a:Addr) (w:World):(ReflectliteValue.parts (.agg #[.pointer (some ⟨9,268,none⟩), .pointer (some a), .int .u64 150])).run Tryz.prog w= .ok (some (268,a,150)) w:=by kernel_rfl
theorem As.wP (a p:Addr) (W:World) (ha:W.cell? a=some (.pointer (some p))):
  (ReflectliteValue.method (ReflectliteValue.valueError "reflectlite.Value.IsNil" 0) ReflectliteValue.isNil #[.agg #[.pointer (some ⟨9,268,none⟩), .pointer (some a), .int .u64 150]]).run Tryz.prog W= .ok (.bool false) W:=by
 rw[Mb]
 simp only[Sem.run_bind,As.qk,Result.andThen]
 simp[ReflectliteValue.isNil,loadVar,isAgg,underlying,Tryz.underlying268,ha,Result.andThen]
theorem As.pF (h:Value) (w:World):(Go.method 474 287 (.agg #[h]) "Elem").run Tryz.prog w= .ok (298, .agg #[h]) w:=by kernel_rfl
theorem As.fe (h:Value) (w:World):(Go.method 474 287 (.agg #[h]) "Implements").run Tryz.prog w= .ok (299, .agg #[h]) w:=by kernel_rfl
theorem As.ef (h:Value) (w:World):(Go.method 474 287 (.agg #[h]) "AssignableTo").run Tryz.prog w= .ok (296, .agg #[h]) w:=by kernel_rfl
theorem As.Aj (w:World):(ReflectliteType.method ReflectliteType.elem #[.agg #[.pointer (some ⟨9,268,none⟩)]]).run Tryz.prog w= .ok (.iface 287 (.agg #[.pointer (some ⟨9,267,none⟩)])) w:=by kernel_rfl
theorem As.jN (w:World):(ReflectliteType.relation "Implements" ReflectliteType.implements_ #[.agg #[.pointer (some ⟨9,267,none⟩)], .iface 287 (.agg #[.pointer (some ⟨9,209,none⟩)])]).run Tryz.prog w= .ok (.bool true) w:=by kernel_rfl
theorem As.sP (v:Value) (w:World):(ReflectliteType.typeOf #[.iface 267 v]).run Tryz.prog w= .ok (.iface 287 (.agg #[.pointer (some ⟨9,267,none⟩)])) w:=by kernel_rfl
theorem As.ks (w:World):(ReflectliteType.relation "AssignableTo" ReflectliteType.assignableTo #[.agg #[.pointer (some ⟨9,267,none⟩)], .iface 287 (.agg #[.pointer (some ⟨9,267,none⟩)])]).run Tryz.prog w= .ok (.bool true) w:=by kernel_rfl
theorem As.qH (c:Int) (w:World):(ReflectliteValue.unpack (.iface 267 (.agg #[.int .i64 c]))).run Tryz.prog w
  = .ok (.agg #[.pointer (some ⟨9,267,none⟩), .pointer (some ⟨w.heap.size,0,none⟩), .int .u64 153]) (w.alloc (.cells #[.int .i64 c] 267)):=by kernel_rfl
theorem As.tY (w:World):(Rtype.elem? 268).run Tryz.prog w= .ok (some 267) w:=by kernel_rfl
theorem As.IS (p:Addr) (w:World):(ReflectliteValue.mk 267 p ReflectliteValue.flagAddr).run Tryz.prog w= .ok (.agg #[.pointer (some ⟨9,267,none⟩), .pointer (some p), .int .u64 409]) w:=by kernel_rfl
theorem As.wT (a p:Addr) (W:World) (ha:W.cell? a=some (.pointer (some p))):
  (ReflectliteValue.method (ReflectliteValue.valueError "reflectlite.Value.Elem" 0) ReflectliteValue.elem #[.agg #[.pointer (some ⟨9,268,none⟩), .pointer (some a), .int .u64 150]]).run Tryz.prog W
   = .ok (.agg #[.pointer (some ⟨9,267,none⟩), .pointer (some p), .int .u64 409]) W:=by
 rw[Mb]
 simp only[Sem.run_bind,As.qk,Result.andThen]
 simp[ReflectliteValue.elem,loadVar,isAgg,underlying,Tryz.underlying268,ha,Result.andThen,As.tY,As.IS]
theorem MA (v x:Value):ReflectliteValue.set #[v,x]=(do
  let(some (dst,a,fl),some (src,b,_)):=(←ReflectliteValue.parts v,←ReflectliteValue.parts x)
   |unsupported (.noEntry "extern/(internal/reflectlite.Value).Set.zeroValue")
  if fl/ReflectliteValue.flagAddr%2==0 then unsupported (.noEntry "extern/(internal/reflectlite.Value).Set.unaddressable")
  let val←loadVar src b
  if←Rtype.directlyAssignable dst src then storeVar dst a val
  else if←Rtype.implements dst src then
   if(←Rtype.kind src)==20 then
    match val with
    | .nilIface=>unsupported (.noEntry "extern/reflectlite: a nil value of one interface type handed on as a value of another")
    |_=>storeVar dst a val
   else storeVar dst a (.iface src val)
  else panicString ("reflectlite.Set: value of type " ++(←Rtype.spelt src)++ " is not assignable to type " ++(←Rtype.spelt dst))
  pure (.tuple #[])):=rfl
theorem As.tq (a:Addr) (w:World):(ReflectliteValue.parts (.agg #[.pointer (some ⟨9,267,none⟩), .pointer (some a), .int .u64 409])).run Tryz.prog w= .ok (some (267,a,409)) w:=by kernel_rfl
theorem As.wE (a:Addr) (w:World):(ReflectliteValue.parts (.agg #[.pointer (some ⟨9,267,none⟩), .pointer (some a), .int .u64 153])).run Tryz.prog w= .ok (some (267,a,153)) w:=by kernel_rfl
theorem As.ua (w:World):(Rtype.directlyAssignable 267 267).run Tryz.prog w= .ok true w:=by kernel_rfl
theorem As.wo (w:World):(sizeOf 267).run Tryz.prog w= .ok 1 w:=by kernel_rfl
theorem As.C2 (ta b:Addr) (c:Int) (ae:Value) (W:World) (hb:W.cell? b=some (.int .i64 c)) (ht:W.cell? ta=some ae) (hf:W.frozen? ta=false):
  (ReflectliteValue.set #[.agg #[.pointer (some ⟨9,267,none⟩), .pointer (some ta), .int .u64 409], .agg #[.pointer (some ⟨9,267,none⟩), .pointer (some b), .int .u64 153]]).run Tryz.prog W
   = .ok (.tuple #[]) (W.setCell ta (.int .i64 c)):=by
 have hl1:(loadCells b 1).run Tryz.prog W= .ok #[.int .i64 c] W:=by
  have:=run_loadCells (P:=Tryz.prog) W b 1 (fun _=>Value.int .i64 c) (fun j hj=>by
   have:j=0:=by omega
   subst this
   simpa[Addr.add]using hb)
  simpa using this
 have hload:(loadVar 267 b).run Tryz.prog W= .ok (.agg #[.int .i64 c]) W:=by
  simp[loadVar,isAgg,underlying,Tryz.underlying267,Result.andThen,Sem.run_bind,As.wo,hl1]
 have hstore:(storeVar 267 ta (.agg #[.int .i64 c])).run Tryz.prog W= .ok () (W.setCell ta (.int .i64 c)):=by
  simp[storeVar,Value.cells,storeCells,Addr.add,Sem.run_bind,As.wo,Result.andThen]
  rw[run_store Tryz.prog W ta _ _ (by rfl)]
  simp[ht,hf]
 rw[MA]
 simp only[Sem.run_bind,As.tq,As.wE,Result.andThen]
 simp[ReflectliteValue.flagAddr,Sem.run_bind,hload,hstore,Result.andThen,As.ua]
set_option maxHeartbeats 4000000 in
theorem Jp (c:Int) (t:Addr) (ae:Value) (w:World) (hg:w.cell? ⟨2,0,none⟩=some (.iface 287 (.agg #[.pointer (some ⟨9,209,none⟩)]))) (ht0:w.cell? t=some ae) (hf0:w.frozen? t=false):
  Calls Tryz.prog 138 #[.iface 267 (.agg #[.int .i64 c]), .iface 268 (.pointer (some t))] w fun ev w'=>ev= .returned (.bool true)∧w'=((((w.alloc (.cells #[.pointer (some t)] 268)).alloc (.cells #[.pointer (some ⟨9,268,none⟩), .pointer (some ⟨w.heap.size,0,none⟩), .int .u64 150] 236)).alloc (.cells #[.pointer (some ⟨9,268,none⟩), .pointer (some ⟨w.heap.size,0,none⟩), .int .u64 150] 236)).alloc (.cells #[.int .i64 c] 267)).setCell t (.int .i64 c):=by
 have h6:= @run_callFunc_extern Tryz.prog 172 _ (fun args=>ReflectliteValue.unpack (args.getD 0 (.tuple #[]))) Tryz.func172 (by kernel_rfl) (by kernel_rfl) (by kernel_rfl) (by kernel_rfl)
 have h7:= @run_callFunc_extern Tryz.prog 173 _ (ReflectliteValue.methodAny (ReflectliteValue.valueError "reflectlite.Value.Type" 0) (fun t _ _ _=>ReflectliteType.toType t)) Tryz.func173 (by kernel_rfl) (by kernel_rfl) (by kernel_rfl) (by kernel_rfl)
 have h8:= @run_callFunc_extern Tryz.prog 174 _ (ReflectliteValue.method (ReflectliteValue.valueError "reflectlite.Value.IsNil" 0) ReflectliteValue.isNil) Tryz.func174 (by kernel_rfl) (by kernel_rfl) (by kernel_rfl) (by kernel_rfl)
 have h27:= @run_callFunc_extern Tryz.prog 283 _ (ReflectliteType.abiMethod fun t=>do pure (.int .u8 (←Rtype.kind t))) Tryz.func283 (by kernel_rfl) (by kernel_rfl) (by kernel_rfl) (by kernel_rfl)
 have h37:= @run_callFunc_extern Tryz.prog 298 _ (ReflectliteType.method ReflectliteType.elem) Tryz.func298 (by kernel_rfl) (by kernel_rfl) (by kernel_rfl) (by kernel_rfl)
 have h38:= @run_callFunc_extern Tryz.prog 299 _ (ReflectliteType.relation "Implements" ReflectliteType.implements_) Tryz.func299 (by kernel_rfl) (by kernel_rfl) (by kernel_rfl) (by kernel_rfl)
 have h10:= @run_callFunc_extern Tryz.prog 213 _ ReflectliteType.typeOf Tryz.func213 (by kernel_rfl) (by kernel_rfl) (by kernel_rfl) (by kernel_rfl)
 have h35:= @run_callFunc_extern Tryz.prog 296 _ (ReflectliteType.relation "AssignableTo" ReflectliteType.assignableTo) Tryz.func296 (by kernel_rfl) (by kernel_rfl) (by kernel_rfl) (by kernel_rfl)
 have h11:= @run_callFunc_extern Tryz.prog 215 _ (ReflectliteValue.method (ReflectliteValue.valueError "reflectlite.Value.Elem" 0) ReflectliteValue.elem) Tryz.func215 (by kernel_rfl) (by kernel_rfl) (by kernel_rfl) (by kernel_rfl)
 have h12:= @run_callFunc_extern Tryz.prog 216 _ ReflectliteValue.set Tryz.func216 (by kernel_rfl) (by kernel_rfl) (by kernel_rfl) (by kernel_rfl)
 have tO:=As.sP
 have mA:=As.ef
 have a25:=As.ks
 have v25:=As.qH
 have f6:=As.qG
 have f7:=As.type27
 have mK:=As.pE
 have mE:=As.pF
 have mI:=As.fe
 have k27:=As.zP
 have k25:=As.zQ
 have e27:=As.Aj
 have i25:=As.jN
 have n8:=As.wP ⟨w.heap.size,0,none⟩ t ((w.alloc (.cells #[.pointer (some t)] 268)).alloc (.cells #[.pointer (some ⟨9,268,none⟩), .pointer (some ⟨w.heap.size,0,none⟩), .int .u64 150] 236)) (by simp)
 have hlt:2<w.heap.size:=World.block_lt_of_cell? w _ hg
 have hg2:((w.alloc (.cells #[.pointer (some t)] 268)).alloc (.cells #[.pointer (some ⟨9,268,none⟩), .pointer (some ⟨w.heap.size,0,none⟩), .int .u64 150] 236)).cell? ⟨2,0,none⟩=some (.iface 287 (.agg #[.pointer (some ⟨9,209,none⟩)])):=by
  rw[World.cell?_alloc_lt _ _ ⟨2,0,none⟩ (Nat.lt_of_lt_of_le hlt (by simp)),World.cell?_alloc_lt _ _ ⟨2,0,none⟩ hlt];exact hg
 have htl:t.block<w.heap.size:=by
  rcases Nat.lt_or_ge t.block w.heap.size with h|h
  ·exact h
  ·simp[World.cell?,Array.getElem?_eq_none h]at ht0
 have el:=As.wT ⟨w.heap.size,0,none⟩ t (((w.alloc (.cells #[.pointer (some t)] 268)).alloc (.cells #[.pointer (some ⟨9,268,none⟩), .pointer (some ⟨w.heap.size,0,none⟩), .int .u64 150] 236)).alloc (.cells #[.pointer (some ⟨9,268,none⟩), .pointer (some ⟨w.heap.size,0,none⟩), .int .u64 150] 236)) (by rw[World.cell?_alloc_lt _ _ ⟨w.heap.size,0,none⟩ (by simp;omega)];simp)
 have st:=As.C2 t ⟨w.heap.size+1+1+1,0,none⟩ c ae ((((w.alloc (.cells #[.pointer (some t)] 268)).alloc (.cells #[.pointer (some ⟨9,268,none⟩), .pointer (some ⟨w.heap.size,0,none⟩), .int .u64 150] 236)).alloc (.cells #[.pointer (some ⟨9,268,none⟩), .pointer (some ⟨w.heap.size,0,none⟩), .int .u64 150] 236)).alloc (.cells #[.int .i64 c] 267))
  (by rw[World.cell?_alloc_at _ _ _ _ (by simp)];rfl)
  (by rw[World.cell?_alloc_lt _ _ t (by simp;omega),World.cell?_alloc_lt _ _ t (by simp;omega),World.cell?_alloc_lt _ _ t (by simp;omega),World.cell?_alloc_lt _ _ t htl];exact ht0)
  (by rw[World.frozen?_alloc_old _ _ t (by simp;omega),World.frozen?_alloc_old _ _ t (by simp;omega),World.frozen?_alloc_old _ _ t (by simp;omega),World.frozen?_alloc_old _ _ t (Nat.ne_of_lt htl)];exact hf0)
 go_enter Tryz.func138,Tryz.ntmps138
 go_wp2
 refine wp_loop_rounds 1 ?_
 rw[rounds_succ]
 go_wp2
 go_ret
 exact⟨rfl,rfl⟩
end Go.Proofs.YtelidogcomffkaaGreatDoor
set_option linter.unusedVariables false
set_option linter.unusedSimpArgs false
set_option linter.unusedSectionVars false
set_option maxRecDepth 100000
namespace Go.Proofs.YtelidogcomffkaaGreatDoor
open Go Go.Sx
variable [Env]
theorem Fe {n:Int}:ab Tryz.prog GL 138 [.val .nilIface, .dZ 268 (.ptr 0 0)] [some (.box false [I n])] (B false) []:=by
 intro θ w hh hg cs
 obtain⟨e,w',fr',⟨rfl,rfl⟩,hc,h3,h4⟩:=Jo (den θ (.dZ 268 (.ptr 0 0))) w cs
 refine⟨_,_,fr',⟨Go.RowKit.Below.refl _ _,_,rfl,fun _=>⟨none,0,0⟩,fun θ' hs _=>⟨rfl,hh.sc hs ⟨rfl,trivial⟩⟩⟩,hc,h3,h4⟩
theorem yB {a1 a2:Int} {n3:Nat} {g4:Nat→Int} {a5 r6 r7:Int} (h0:S 196 [I a1,I a2, .sl 0 n3,I a5] [ri n3 g4] (.af [.agg [I r6,I r7], .val .nilIface]) []):
  S 151 [I a1,I a2, .sl 0 n3,I a5] [ri n3 g4] (.af [.agg [I r6,I r7],I 0]) []:=
 ab.path 38 [.call [0] (.af [.agg [I r6,I r7], .val .nilIface]) [], .call [3] (B false) [],fb] [] 4 (by kernel_rfl) rfl (by exact⟨fun _=>rfl,trivial⟩) (ca h0 (ca (show S 138 [.val .nilIface, .dZ 268 (.ptr 0 0)] [some (.box false [I 0])] (B false) []from Fe) (ca rf na)))
noncomputable def qt (n3:Nat) (g4:Nat→Int) (x1:Int) (x2:Int) (x3:Int):SC:=
 ⟨[⟨151,[none,none,none,none,none,none,none,none,some (.ptr 1 0),none,some (.ptr 2 0),none,some (.ptr 3 0),none,none,none,none,none,none,none,none,some (.dZ 267 (.agg [I x1])),some (.dZ 268 (.ptr 3 0)),none,none,none,none,none],[.inRegion (aU Tryz.f151 [1,1,1,0,0]) [2], .code (aa Tryz.f151 [1,1,1,0,1]), .code (aa Tryz.f151 [1,1,1,1])],{}⟩],[ri n3 g4,some (.box true [I x2,I x3]),some (.box true [I 0,I 0]),some (.box true [I 0])]⟩
theorem yA {X:Cx} {res:SV} {new:List (Option Vw)} {a1 a2:Int} {n3:Nat} {g4:Nat→Int} {a5 r6:Int} (hX:Fi X 151 [ri n3 g4] res new) (h0:S 196 [I a1,I a2, .sl 0 n3,I a5] [ri n3 g4] (.af [.agg [I 0,I 0], .dZ 267 (.agg [I r6])]) []) (k:Ok X (qt n3 g4 r6 0 0)):
  Ok X (entry Tryz.prog 151 [I a1,I a2, .sl 0 n3,I a5] [ri n3 g4]):=
 Ok.bg 28 [.call [0] (.af [.agg [I 0,I 0], .dZ 267 (.agg [I r6])]) []] [cN 28 [8,10,12,21,22]] [.ae 0, .ae 1, .ae 2, .ae 3] 1 hX.P hX.gl hX.n0 (by kernel_rfl) (by kernel_rfl) (by exact⟨fun _=>rfl,rfl,rfl,rfl,trivial⟩) (ca h0 na) k
noncomputable def rM (n3:Nat) (g4:Nat→Int) (x1:Int) (x2:Int) (x3:Int):SC:=
 ⟨[⟨151,[none,none,none,none,none,none,none,none,some (.ptr 1 0),none,some (.ptr 2 0),none,some (.ptr 3 0),none,none,none,none,none,none,none,none,some (.dZ 267 (.agg [I x1])),some (.dZ 268 (.ptr 3 0)),some (B true),none,none,none,none],[.inRegion (aU Tryz.f151 [1,1,1,0,0]) [], .code (aa Tryz.f151 [1,1,1,0,1]), .code (aa Tryz.f151 [1,1,1,1])],{}⟩],[ri n3 g4,some (.box true [I x2,I x3]),some (.box true [I 0,I 0]),some (.box true [I x1])]⟩
theorem yz {X:Cx} {n3:Nat} {g4:Nat→Int} {x1 x2 x3:Int} (hX:Fi X 151 [ri n3 g4] (.af [.agg [I 0,I 0],I x1]) []):
  Ok X (rM n3 g4 x1 x2 x3):=
 Ok.fin 6 [tb, .draw 3 [1,2] 1] [] 4 hX (by kernel_rfl) rfl (ca rt (ca (show(.ptr 3 0:SV)= .ptr 3 0 from rfl) (ca (re (I x1)) (ca (show(.ptr 3 0:SV)= .ptr 3 0 from rfl) (ca (re (I x1)) na)))))
theorem xA {w:World} {b:Nat} {u v:Value} {t:TypeId} (h:w.heap[b]? =some (.cells #[u] t (0,0))):(w.setCell ⟨b,0,none⟩ v).heap[b]? =some (.cells #[v] t (0,0)):=by
 have hlt:=(Array.getElem?_eq_some_iff.1 h).1
 simp[World.setCell,Array.getElem?_modify,h]
theorem gh {n:Nat} {g:Nat→Int} {a b f c:Int} (hsum:ab Tryz.prog GL 196 [I a,I b, .sl 0 n,I f] [some (.row false 3 n 1 (fun i=>[I (g i)]))] (.af [.agg [I 0,I 0], .dZ 267 (.agg [I c])]) []):
  ab Tryz.prog GL 151 [I a,I b, .sl 0 n,I f] [some (.row false 3 n 1 (fun i=>[I (g i)]))] (.af [.agg [I 0,I 0],I c]) []:=by
 refine ab.of (by kernel_rfl) rfl ⟨fun i=>rfl,trivial⟩ rfl (fun X hX=> ?_)
 refine yA hX hsum ?_
 intro θ fr ms w hh
 unfold qt at hh
 obtain⟨T,rfl,hpre,hrest⟩:=hh.pre
 have hms:ms=[]:=by cases hrest θ (az.refl _ _);rfl
 subst hms
 have h2:((aU Tryz.f151 [1,1,1,0,0])[2]?).map (fun o=>(o.op,o.guard,o.dst))=some (.call ⟨.value (.func 138), #[.tmp 21, .tmp 22], #[209,20]⟩,none,some 23):=by kernel_rfl
 rw[Option.map_eq_some_iff]at h2
 obtain⟨o,ho,ho'⟩:=h2
 simp only[Prod.mk.injEq]at ho'
 obtain⟨hop,hgd,hdst⟩:=ho'
 have hpre':=hpre
 rw[hX.P,hX.gl]at hpre'
 obtain⟨vs,hrun,hvs⟩:=cS (ds:=[]) (o:=o) (hs:=[]) (ps:=[]) (hs':=[]) (e:= .enter 138 [.dZ 267 (.agg [I c]), .dZ 268 (.ptr 3 0)]) hpre' (by rw[hop];kernel_rfl) trivial
 obtain⟨hh0,hT0⟩:=hpre'.inv θ (az.refl _ _)
 obtain⟨hA3,hB3⟩:=hh0.vw 3 _ rfl
 obtain⟨bt,hbt,hbb,c3,el3,hg3,hs3⟩:=hB3 rfl
 obtain⟨a3,ha3,hl3⟩:=hA3 (by simp)
 rw[hbt]at ha3;cases ha3
 have hc3:c3.toList=ax θ [I 0]:=mz hg3 hs3 hl3
 have hc3':c3= #[.int .i64 0]:=by
  have:c3=c3.toList.toArray:=by simp
  rw[this,hc3];rfl
 subst hc3'
 have hgE:=(hpre'.gX 2 (.box false [.val (.iface 287 (.agg #[.pointer (some ⟨9,209,none⟩)]))]) (by unfold GL;simp)).2 θ
 have hE:w.cell? ⟨2,0,none⟩=some (.iface 287 (.agg #[.pointer (some ⟨9,209,none⟩)])):=hgE.1 0 _ rfl
 have hcell:w.cell? ⟨bt,0,none⟩=some (.int .i64 0):=by simp[World.cell?,hg3]
 have hfroz:w.frozen? ⟨bt,0,none⟩=false:=by simp[World.frozen?,hg3]
 have hvs0:=hvs θ (az.refl _ _)
 have hvs1:vs.toArray= #[.iface 267 (.agg #[.int .i64 c]), .iface 268 (.pointer (some ⟨bt,0,none⟩))]:=by
  rw[hvs0]
  simp only[ax,den,hbt,Option.map_some,at_,Nat.add_zero]
 rw[hvs1]at hrun
 obtain⟨e,w',fr',⟨rfl,hw'⟩,hcomes, -,hleave⟩:=Jp c ⟨bt,0,none⟩ (.int .i64 0) w hE hcell hfroz (au {} 151 T [.inRegion (aU Tryz.f151 [1,1,1,0,0]) [2], .code (aa Tryz.f151 [1,1,1,0,1]), .code (aa Tryz.f151 [1,1,1,1])]::X.cs)
 have hst:=fv (P:=Tryz.prog) (rx:={}) (fn:=151) (T:=T) (k:=[.code (aa Tryz.f151 [1,1,1,0,1]), .code (aa Tryz.f151 [1,1,1,1])]) (cs:=X.cs) (rest:=[]) ho (cF hgd) hrun
 have hlv:=step_leave_returned (c:=au {} 151 T [.inRegion (aU Tryz.f151 [1,1,1,0,0]) [2], .code (aa Tryz.f151 [1,1,1,0,1]), .code (aa Tryz.f151 [1,1,1,1])]) (cs:=X.cs) hleave
 rw[il ho]at hlv
 generalize hw4:(((w.alloc (.cells #[.pointer (some ⟨bt,0,none⟩)] 268)).alloc (.cells #[.pointer (some ⟨9,268,none⟩), .pointer (some ⟨w.heap.size,0,none⟩), .int .u64 150] 236)).alloc (.cells #[.pointer (some ⟨9,268,none⟩), .pointer (some ⟨w.heap.size,0,none⟩), .int .u64 150] 236)).alloc (.cells #[.int .i64 c] 267)=w4 at hw'
 have hb4:Go.RowKit.Below w.heap.size w w4:=by
  rw[←hw4]
  exact((((Go.RowKit.Below.refl _ w).alloc (Nat.le_refl _) _).alloc (by simp) _).alloc (by simp;omega) _).alloc (by simp;omega) _
 have hg4:w4.heap[bt]? =some (.cells #[.int .i64 0] el3 (0,0)):=kept hg3 hb4
 have hnew:w'.heap[bt]? =some (.cells #[.int .i64 c] el3 (0,0)):=by rw[hw'];exact xA hg4
 have hoth: ∀ k,k≠bt→w'.heap[k]? =w4.heap[k]? :=fun k hk=>by
  rw[hw']
  simp[World.setCell,Array.getElem?_modify,Ne.symm hk]
 have hbel:Go.RowKit.Below X.base w w':=by
  have hX1:=hb4.mono hpre.sz
  refine⟨?_, ?_, ?_, ?_,fun k hk=> ?_⟩
  ·rw[hw'];exact hX1.os
  ·rw[hw'];exact hX1.tape
  ·rw[hw'];exact hX1.output
  ·rw[hw'];simpa[World.setCell]using hX1.size
  ·rw[hoth k (by omega)];exact hX1.block k hk
 refine pU.steps (fr2:=au {} 151 ((Act.mk T []).put o.dst (.bool true)).tmps (.inRegion (aU Tryz.f151 [1,1,1,0,0]) []::[.code (aa Tryz.f151 [1,1,1,0,1]), .code (aa Tryz.f151 [1,1,1,1])])) (frs2:=[]) (w2:=w') (by rw[hX.P];exact .head hst (Steps.trans hcomes (.one hlv))) ?_
 have hk:=yz (X:=X) (n3:=n) (g4:=g) (x1:=c) (x2:=0) (x3:=0) hX
 unfold rM at hk
 refine hk θ _ [] w' ⟨fun θ' hs=>⟨?_, .cons ⟨_,rfl, ?_⟩ .nil⟩,hh.ae,hh.len,hh.sb.trans hbel,Nat.le_trans hh.sz hbel.size,hh.gX.below hh.gb hbel,hh.gb⟩
 ·have h5:=(hpre'.inv θ' hs).1.below hb4
  have hbt':(θ' 3).base=some ⟨bt,0,none⟩:=by rw[hs 3 (by show 3<4;omega)];exact hbt
  exact h5.write (t:=3) (v':= .box true [I c]) rfl rfl rfl hbt' rfl hoth ⟨fun _=>⟨_,hbt',fun k v hk=>by
   cases k with
   |zero=>simp at hk;subst hk;simp[World.cell?,at_,hnew,den]
   |succ k=>simp at hk⟩,fun _=>⟨bt,hbt',hbb,_,el3,hnew,rfl⟩⟩
 ·have h6:=((hpre'.inv θ' hs).2).set (v:=B true) (r:= .bool true) (d:=o.dst) (ds:=[]) rfl
  refine h6.sub ?_
  rw[hdst]
  simp[dX,kK]
theorem Kk {n:Nat} {g:Nat→Int} {a b f:Int}:ab Tryz.prog GL 151 [I a,I b, .sl 0 n,I f] [some (.row false 3 n 1 (fun i=>[I (g i)]))] (RT (ky a b n g f)) []:=by
 unfold ky
 cases hda:ai a
 ·rw[if_pos (.inl rfl)]
  exact gh (zX (pJ a) hda)
 cases hdb:ai b
 ·rw[if_pos (.inr rfl)]
  exact gh (zW (pJ a) hda (pJ b) hdb)
 rw[if_neg (by simp)]
 by_cases hab:a>b
 ·rw[if_pos hab]
  exact gh (zV (pJ a) hda (pJ b) hdb hab)
 rw[if_neg hab]
 cases hm:iR n g f
 ·rw[if_pos (.inl rfl)]
  exact gh (zU (pJ a) hda (pJ b) hdb hab Gg hm)
 obtain⟨m1,m2,m3,m4,m5,m6,m7⟩:=qQ hm
 have e:(((n:Nat):Int)-1).toNat=n-1:=by omega
 by_cases h0:a<g 0
 ·rw[if_pos (.inr (.inl h0))]
  exact gh (zT (pJ a) hda (pJ b) hdb hab Gg hm (by omega) h0)
 by_cases h1:b>g (n-1)
 ·rw[if_pos (.inr (.inr h1))]
  exact gh (zS (pJ a) hda (pJ b) hdb hab Gg hm (by omega) h0 (by simp only[aj];omega) (by omega) (by rw[e];exact h1))
 rw[if_neg (by simp;omega)]
 exact yB (Lz hda hdb hab hm h0 h1)
end Go.Proofs.YtelidogcomffkaaGreatDoor
