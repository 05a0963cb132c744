import Derived.Test.YtelidogcomffkaaGreatDoorThi
import Derived.Test.YtelidogcomffkaaGreatDoorIs
import Derived.Test.YtelidogcomffkaaGreatDoorProg
import Derived.KernelRfl
import Derived.Laws.Externs
set_option linter.unusedSectionVars false
set_option linter.unusedSimpArgs false
set_option linter.unusedVariables false
set_option maxRecDepth 100000
namespace Go.Proofs.YtelidogcomffkaaGreatDoor
open Go Go.Sx
variable [Env]
def iR (n:Nat) (g:Nat→Int) (f:Int):Bool:=
 decide (2≤n∧n≤1204∧1≤f∧f≤12∧(∀ i,i<n→ai (g i)=true)∧(∀ i,i<n-1→g i≤g (i+1))∧g 0<g (n-1))
def fj (n:Nat) (g:Nat→Int):Bool:=decide (∀ i,i<n-1→g i≤g (i+1))
theorem tM {a1 r2 r3 r4 r5:Int} (h0:S 60 [I a1] [] (.af [.agg [I r2,I r3,I r4],I r5]) []):
  S 226 [I a1] [] (B (r5==0)) []:=
 ab.path 21 [.call [] (.af [.agg [I r2,I r3,I r4],I r5]) []] [] 1 (by kernel_rfl) rfl (by exact trivial) (ca h0 na)
theorem pJ (n:Int):ab Tryz.prog GL 226 [I n] [] (B (ai n)) []:=by
 unfold ai
 by_cases h:1≤n∧n≤3652059
 ·rw[decide_eq_true h]
  exact tM (Mo h.1 h.2)
 ·rw[decide_eq_false h]
  exact tM (BQ h)
noncomputable def aW (n1:Nat) (g2:Nat→Int) (x1:Int):SC:=
 ⟨[⟨247,bJ 21 [(0, .sl 0 n1),(3,I x1)],[.code (aa Tryz.f247 [1,0,1,0,0]), .inLoop (aa Tryz.f247 [1,0,1,0,0]), .inBlock 0, .code (aa Tryz.f247 [1,1])],{}⟩],[ri n1 g2]⟩
theorem gw {X:Cx} {res:SV} {new:List (Option Vw)} {n1:Nat} {g2:Nat→Int} (hX:Fi X 247 [ri n1 g2] res new) (h0:aj .i64 (((n1:Nat):Int)-1)) (k:Ok X (aW n1 g2 (((n1:Nat):Int)-1))):
  Ok X (entry Tryz.prog 247 [.sl 0 n1] [ri n1 g2]):=
 Ok.bg 14 [] [cN 21 [0,3]] [.ae 0] 1 hX.P hX.gl hX.n0 (by kernel_rfl) (by kernel_rfl) (by exact⟨fun _=>rfl,trivial⟩) (ca h0 na) k
theorem gv {X:Cx} {n1:Nat} {g2:Nat→Int} {x1:Int} (hX:Fi X 247 [ri n1 g2] (B false) []) (h0:x1>0) (h1:(0:Int)≤x1∧x1<((n1:Nat):Int)) (h2:aj .i64 (x1-1)) (h3:(0:Int)≤(x1-1)∧(x1-1)<((n1:Nat):Int)) (h4:(g2 x1.toNat)<(g2 ((x1-1).toNat))):
  Ok X (aW n1 g2 x1):=
 Ok.fin 19 [tb, .draw 9 [] 0, .call [] (B (decide ((g2 x1.toNat)<(g2 ((x1-1).toNat))))) [],tb] [] 1 hX (by kernel_rfl) rfl (ca (dt h0) (ca h1 (ca (re n1) (ca h1 (ca h2 (ca h3 (ca (re n1) (ca h3 (ca (show S 234 [I (g2 x1.toNat),I (g2 ((x1-1).toNat))] [] (B (decide ((g2 x1.toNat)<(g2 ((x1-1).toNat))))) []from pO) (ca (dt h4) na))))))))))
theorem gu {X:Cx} {res:SV} {new:List (Option Vw)} {n1:Nat} {g2:Nat→Int} {x1:Int} (hX:Fi X 247 [ri n1 g2] res new) (h0:x1>0) (h1:(0:Int)≤x1∧x1<((n1:Nat):Int)) (h2:aj .i64 (x1-1)) (h3:(0:Int)≤(x1-1)∧(x1-1)<((n1:Nat):Int)) (h4: ¬(g2 x1.toNat)<(g2 ((x1-1).toNat))) (k:Ok X (aW n1 g2 (x1-1))):
  Ok X (aW n1 g2 x1):=
 Ok.bg 23 [tb, .draw 9 [] 0, .call [] (B (decide ((g2 x1.toNat)<(g2 ((x1-1).toNat))))) [],fb] [cN 21 [0,3]] [.ae 0] 1 hX.P hX.gl hX.n0 (by kernel_rfl) (by kernel_rfl) (by exact⟨fun _=>rfl,trivial⟩) (ca (dt h0) (ca h1 (ca (re n1) (ca h1 (ca h2 (ca h3 (ca (re n1) (ca h3 (ca (show S 234 [I (g2 x1.toNat),I (g2 ((x1-1).toNat))] [] (B (decide ((g2 x1.toNat)<(g2 ((x1-1).toNat))))) []from pO) (ca (df h4) (ca h2 na))))))))))) k
theorem dB {X:Cx} {n1:Nat} {g2:Nat→Int} {x1:Int} (hX:Fi X 247 [ri n1 g2] (B true) []) (h0: ¬x1>0):
  Ok X (aW n1 g2 x1):=
 Ok.fin 12 [fb] [] 1 hX (by kernel_rfl) rfl (ca (df h0) na)
theorem ru {X:Cx} {n:Nat} {g:Nat→Int} (hn:n≤1204) (hX:av X Tryz.prog GL 247 [some (.row false 3 n 1 (fun i=>[I (g i)]))] (B (fj n g)) []):
  ∀ (i:Nat),i≤n-1→(∀ j,i≤j→j<n-1→g j≤g (j+1))→Ok X (aW n g (i:Int))
 |0,hi,h=>by
  grind [dB,fj]
 |i+1,hi,h=>by
  have e:(((i+1:Nat):Int)-1).toNat=i:=by omega
  have e2:(((i+1:Nat):Int)).toNat=i+1:=by omega
  by_cases hlt:g (i+1)<g i
  ·refine gv ?_ (by omega) (by omega) (by simp only[aj];omega) (by omega) (by rw[e,e2];exact hlt)
   grind [fj]
  ·refine gu hX (by omega) (by omega) (by simp only[aj];omega) (by omega) (by rw[e,e2];exact hlt) ?_
   rw[show(((i+1:Nat):Int)-1)=(i:Int)by omega]
   refine ru hn hX i (by omega) (fun j h1 h2=> ?_)
   grind
theorem vz {n:Nat} {g:Nat→Int} (hn:n≤1204):ab Tryz.prog GL 247 [.sl 0 n] [some (.row false 3 n 1 (fun i=>[I (g i)]))] (B (fj n g)) []:=by
 refine ab.of (by kernel_rfl) rfl ⟨fun i=>rfl,trivial⟩ rfl (fun X hX=> ?_)
 refine gw hX (by simp only[aj];omega) ?_
 grind [dB,fj,ru]
theorem z_ {n1:Nat} {g2:Nat→Int} {a3:Int} (h0:((n1:Nat):Int)<2):
  S 227 [.sl 0 n1,I a3] [ri n1 g2] (B false) []:=
 ab.path 29 [tb,tb,tb,tb,tb,tb,tb,tb,tb,tb,tb] [] 1 (by kernel_rfl) rfl (by exact⟨fun _=>rfl,trivial⟩) (ca (dt h0) (ca (dt h0) (ca (dt h0) (ca (dt h0) (ca rt (ca rt (ca rt (ca rt (ca rt (ca rt (ca rt na)))))))))))
theorem z9 {n1:Nat} {g2:Nat→Int} {a3:Int} (h0: ¬((n1:Nat):Int)<2) (h1:((n1:Nat):Int)>1204):
  S 227 [.sl 0 n1,I a3] [ri n1 g2] (B false) []:=
 ab.path 29 [fb,fb,fb,fb,tb,tb,tb,tb,tb,tb,tb] [] 1 (by kernel_rfl) rfl (by exact⟨fun _=>rfl,trivial⟩) (ca (df h0) (ca (df h0) (ca (df h0) (ca (df h0) (ca (dt h1) (ca (dt h1) (ca (dt h1) (ca rt (ca rt (ca rt (ca rt na)))))))))))
theorem z8 {n1:Nat} {g2:Nat→Int} {a3:Int} (h0: ¬((n1:Nat):Int)<2) (h1: ¬((n1:Nat):Int)>1204) (h2:a3<1):
  S 227 [.sl 0 n1,I a3] [ri n1 g2] (B false) []:=
 ab.path 29 [fb,fb,fb,fb,fb,fb,fb,tb,tb,tb,tb] [] 1 (by kernel_rfl) rfl (by exact⟨fun _=>rfl,trivial⟩) (ca (df h0) (ca (df h0) (ca (df h0) (ca (df h0) (ca (df h1) (ca (df h1) (ca (df h1) (ca (dt h2) (ca (dt h2) (ca (dt h2) (ca rt na)))))))))))
theorem z7 {n1:Nat} {g2:Nat→Int} {a3:Int} (h0: ¬((n1:Nat):Int)<2) (h1: ¬((n1:Nat):Int)>1204) (h2: ¬a3<1) (h3:a3>12):
  S 227 [.sl 0 n1,I a3] [ri n1 g2] (B false) []:=
 ab.path 29 [fb,fb,fb,fb,fb,fb,fb,fb,fb,fb,tb] [] 1 (by kernel_rfl) rfl (by exact⟨fun _=>rfl,trivial⟩) (ca (df h0) (ca (df h0) (ca (df h0) (ca (df h0) (ca (df h1) (ca (df h1) (ca (df h1) (ca (df h2) (ca (df h2) (ca (df h2) (ca (dt h3) na)))))))))))
noncomputable def dG (n1:Nat) (g2:Nat→Int) (x1:Int) (x2:Int):SC:=
 ⟨[⟨130,bJ 19 [(0, .sl 0 n1),(1, .fn (.func 246) [] []),(7,I x1),(8,I x2)],[.code (aa Tryz.f130 [1,0,1,0,0]), .inLoop (aa Tryz.f130 [1,0,1,0,0]), .inBlock 0, .code (aa Tryz.f130 [1,1])],{}⟩,⟨245,[none,none,none,none,none,some (.sl 0 n1),some (.fn (.func 246) [] []),none,none],[.inRegion (aU Tryz.f245 [1,0]) [2,3,4], .code (aa Tryz.f245 [1,1])],{}⟩,⟨227,bJ 42 [(0, .sl 0 n1),(22, .sl 0 n1)],[.inRegion (aU Tryz.f227 [1,1,0]) [1,2,3], .code (aa Tryz.f227 [1,1,1])],{}⟩],[ri n1 g2]⟩
theorem z6 {X:Cx} {res:SV} {new:List (Option Vw)} {n1:Nat} {g2:Nat→Int} {a3:Int} (hX:Fi X 227 [ri n1 g2] res new) (h0: ¬((n1:Nat):Int)<2) (h1: ¬((n1:Nat):Int)>1204) (h2: ¬a3<1) (h3: ¬a3>12) (k:Ok X (dG n1 g2 ((n1:Nat):Int) 0)):
  Ok X (entry Tryz.prog 227 [.sl 0 n1,I a3] [ri n1 g2]):=
 Ok.bg 52 [fb,fb,fb,fb,fb,fb,fb,fb,fb,fb,fb, .inl, .inl] [cN 19 [0,1,7,8],[false,false,false,false,false,true,true,false,false],cN 42 [0,22]] [.ae 0] 1 hX.P hX.gl hX.n0 (by kernel_rfl) (by kernel_rfl) (by exact⟨fun _=>rfl,trivial⟩) (ca (df h0) (ca (df h0) (ca (df h0) (ca (df h0) (ca (df h1) (ca (df h1) (ca (df h1) (ca (df h2) (ca (df h2) (ca (df h2) (ca (df h3) na))))))))))) k
theorem z5 {X:Cx} {n1:Nat} {g2:Nat→Int} {x1 x2:Int} {r5003:Bool} (hX:Fi X 227 [ri n1 g2] (B false) []) (h0:x2<x1) (h1:(0:Int)≤x2∧x2<((n1:Nat):Int)) (h2:S 226 [I (g2 x2.toNat)] [] (B r5003) []) (h3:r5003=false) (h4:x2≥0):
  Ok X (dG n1 g2 x1 x2):=
 Ok.fin 55 [tb, .inl, .call [] (B r5003) [],tb, .draw 15 [] 0,fb,fb,fb,fb,fb,fb,fb,fb,fb,fb,fb,fb,fb,fb] [] 1 hX (by kernel_rfl) rfl (ca (dt h0) (ca h1 (ca (re n1) (ca h1 (ca h2 (ca (nt h3) (ca (Go.Sx.tu (dt h4)) (ca (Go.Sx.tu (dt h4)) (ca (Go.Sx.tu (dt h4)) (ca rf (ca rf (ca rf (ca rf (ca rf (ca rf (ca rf (ca rf (ca rf (ca rf (ca rf na))))))))))))))))))))
theorem zZ {X:Cx} {res:SV} {new:List (Option Vw)} {n1:Nat} {g2:Nat→Int} {x1 x2:Int} {r5003:Bool} (hX:Fi X 227 [ri n1 g2] res new) (h0:x2<x1) (h1:(0:Int)≤x2∧x2<((n1:Nat):Int)) (h2:S 226 [I (g2 x2.toNat)] [] (B r5003) []) (h3:r5003=true) (h4:aj .i64 (x2+1)) (k:Ok X (dG n1 g2 x1 (x2+1))):
  Ok X (dG n1 g2 x1 x2):=
 Ok.bg 43 [tb, .inl, .call [] (B r5003) [],fb] [cN 19 [0,1,7,8],[false,false,false,false,false,true,true,false,false],cN 42 [0,22]] [.ae 0] 1 hX.P hX.gl hX.n0 (by kernel_rfl) (by kernel_rfl) (by exact⟨fun _=>rfl,trivial⟩) (ca (dt h0) (ca h1 (ca (re n1) (ca h1 (ca h2 (ca (nf h3) (ca h4 na))))))) k
theorem zY {X:Cx} {n1:Nat} {g2:Nat→Int} {x1 x2:Int} {r5003:Bool} (hX:Fi X 227 [ri n1 g2] (B (decide ((g2 0)<(g2 ((((n1:Nat):Int)-1).toNat))))) []) (h0: ¬x2<x1) (h1:S 247 [.sl 0 n1] [ri n1 g2] (B r5003) []) (h2:r5003=true) (h3:(0:Int)≤0∧0<((n1:Nat):Int)) (h4:aj .i64 (((n1:Nat):Int)-1)) (h5:(0:Int)≤(((n1:Nat):Int)-1)∧(((n1:Nat):Int)-1)<((n1:Nat):Int)):
  Ok X (dG n1 g2 x1 x2):=
 Ok.fin 25 [fb, .draw 15 [] 0,tb,tb, .call [0] (B r5003) [],tb,tb,tb,tb,tb,tb,tb,tb,tb,tb,tb,tb] [] 1 hX (by kernel_rfl) rfl (ca (df h0) (ca (show(!decide (((-1):Int)≥0))=true from rfl) (ca (show(!decide (((-1):Int)≥0))=true from rfl) (ca h1 (ca (show(!decide (((-1):Int)≥0))=true from rfl) (ca h2 (ca h2 (ca h3 (ca (re n1) (ca h2 (ca h3 (ca h2 (ca h2 (ca h2 (ca h2 (ca h4 (ca h2 (ca h5 (ca (re n1) (ca h2 (ca h5 (ca h2 (ca h2 na)))))))))))))))))))))))
theorem yC {X:Cx} {n1:Nat} {g2:Nat→Int} {x1 x2:Int} {r5003:Bool} (hX:Fi X 227 [ri n1 g2] (B false) []) (h0: ¬x2<x1) (h1:S 247 [.sl 0 n1] [ri n1 g2] (B r5003) []) (h2:r5003=false):
  Ok X (dG n1 g2 x1 x2):=
 Ok.fin 25 [fb, .draw 15 [] 0,tb,tb, .call [0] (B r5003) [],tb,fb,fb,fb,fb,fb,fb,fb,fb,fb,fb,fb] [] 1 hX (by kernel_rfl) rfl (ca (df h0) (ca (show(!decide (((-1):Int)≥0))=true from rfl) (ca (show(!decide (((-1):Int)≥0))=true from rfl) (ca h1 (ca (show(!decide (((-1):Int)≥0))=true from rfl) (ca h2 (ca h2 (ca h2 (ca h2 (ca h2 (ca h2 (ca h2 (ca h2 (ca h2 (ca h2 (ca h2 na))))))))))))))))
theorem iQ {n:Nat} {g:Nat→Int} {f:Int} (h1: ¬((n:Nat):Int)<2) (h2: ¬((n:Nat):Int)>1204) (h3: ¬f<1) (h4: ¬f>12):
  iR n g f=(decide (∀ i,i<n→ai (g i)=true)&&(fj n g&&decide (g 0<g (n-1)))):=by
 grind [iR,fj]
theorem vU {X:Cx} {n:Nat} {g:Nat→Int} {f:Int} (h1: ¬((n:Nat):Int)<2) (h2: ¬((n:Nat):Int)>1204) (h3: ¬f<1) (h4: ¬f>12) (hX:av X Tryz.prog GL 227 [some (.row false 3 n 1 (fun i=>[I (g i)]))] (B (iR n g f)) []):
  ∀ (m i:Nat),n-i=m→i≤n→(∀ j,j<i→ai (g j)=true)→Ok X (dG n g (n:Int) (i:Int))
 |0,i,hm,hi,h=>by
  have hall:(decide (∀ i,i<n→ai (g i)=true))=true:=decide_eq_true (fun j hj=>h j (by omega))
  rw[iQ h1 h2 h3 h4,hall,Bool.true_and]at hX
  cases hs:fj n g
  ·grind [yC,vz]
  ·rw[hs,Bool.true_and]at hX
   refine zY ?_ (by omega) (vz (by omega)) hs (by omega) (by simp only[aj];omega) (by omega)
   simp_all
 |m+1,i,hm,hi,h=>by
  have e:(i:Int).toNat=i:=rfl
  cases hd:ai (g i)
  ·grind [z5,pJ,iQ]
  ·refine zZ hX (by omega) (by omega) (pJ _) hd (by simp only[aj];omega) ?_
   have:=vU h1 h2 h3 h4 hX m (i+1) (by omega) (by omega) (fun j hj=>by
    by_cases hji:j=i
    ·subst hji;exact hd
    ·exact h j (by omega))
   simp_all
theorem Gg {n:Nat} {g:Nat→Int} {f:Int}:ab Tryz.prog GL 227 [.sl 0 n,I f] [some (.row false 3 n 1 (fun i=>[I (g i)]))] (B (iR n g f)) []:=by
 by_cases h1:((n:Nat):Int)<2
 ·rw[show iR n g f=false from decide_eq_false (by omega)];exact z_ h1
 by_cases h2:((n:Nat):Int)>1204
 ·rw[show iR n g f=false from decide_eq_false (by omega)];exact z9 h1 h2
 by_cases h3:f<1
 ·rw[show iR n g f=false from decide_eq_false (by omega)];exact z8 h1 h2 h3
 by_cases h4:f>12
 ·rw[show iR n g f=false from decide_eq_false (by omega)];exact z7 h1 h2 h3 h4
 refine ab.of (by kernel_rfl) rfl ⟨fun i=>rfl,trivial⟩ rfl (fun X hX=> ?_)
 exact z6 hX h1 h2 h3 h4 (vU h1 h2 h3 h4 hX n 0 rfl (by omega) (fun j hj=>by omega))
theorem nu {n1:Nat} {g2:Nat→Int} {a3:Int} (h0:((n1:Nat):Int)<2):
  S 120 [.sl 0 n1,I a3] [ri n1 g2] (B false) []:=
 ab.path 33 [tb,tb,tb,tb,tb,tb,tb,tb,tb,tb] [] 1 (by kernel_rfl) rfl (by exact⟨fun _=>rfl,trivial⟩) (ca (dt h0) (ca (dt h0) (ca (dt h0) (ca rt (ca rt (ca rt (ca rt (ca rt (ca rt (ca rt na))))))))))
theorem ns {n1:Nat} {g2:Nat→Int} {a3:Int} (h0: ¬((n1:Nat):Int)<2) (h1:((n1:Nat):Int)>1204):
  S 120 [.sl 0 n1,I a3] [ri n1 g2] (B false) []:=
 ab.path 33 [fb,fb,fb,tb,tb,tb,tb,tb,tb,tb] [] 1 (by kernel_rfl) rfl (by exact⟨fun _=>rfl,trivial⟩) (ca (df h0) (ca (df h0) (ca (df h0) (ca (dt h1) (ca (dt h1) (ca (dt h1) (ca rt (ca rt (ca rt (ca rt na))))))))))
theorem nq {n1:Nat} {g2:Nat→Int} {a3:Int} (h0: ¬((n1:Nat):Int)<2) (h1: ¬((n1:Nat):Int)>1204) (h2:a3<1):
  S 120 [.sl 0 n1,I a3] [ri n1 g2] (B false) []:=
 ab.path 33 [fb,fb,fb,fb,fb,fb,tb,tb,tb,tb] [] 1 (by kernel_rfl) rfl (by exact⟨fun _=>rfl,trivial⟩) (ca (df h0) (ca (df h0) (ca (df h0) (ca (df h1) (ca (df h1) (ca (df h1) (ca (dt h2) (ca (dt h2) (ca (dt h2) (ca rt na))))))))))
theorem nj {n1:Nat} {g2:Nat→Int} {a3:Int} (h0: ¬((n1:Nat):Int)<2) (h1: ¬((n1:Nat):Int)>1204) (h2: ¬a3<1) (h3:a3>12):
  S 120 [.sl 0 n1,I a3] [ri n1 g2] (B false) []:=
 ab.path 33 [fb,fb,fb,fb,fb,fb,fb,fb,fb,tb] [] 1 (by kernel_rfl) rfl (by exact⟨fun _=>rfl,trivial⟩) (ca (df h0) (ca (df h0) (ca (df h0) (ca (df h1) (ca (df h1) (ca (df h1) (ca (df h2) (ca (df h2) (ca (df h2) (ca (dt h3) na))))))))))
noncomputable def aS (n1:Nat) (g2:Nat→Int) (x1:Int) (x2:Int):SC:=
 ⟨[⟨120,bJ 61 [(0, .sl 0 n1),(5,I x1),(6,I x2)],[.code (aa Tryz.f120 [1,1,1,0,1,0,0]), .inLoop (aa Tryz.f120 [1,1,1,0,1,0,0]), .inBlock 0, .code (aa Tryz.f120 [1,1,1,1])],{}⟩],[ri n1 g2]⟩
theorem ni {X:Cx} {res:SV} {new:List (Option Vw)} {n1:Nat} {g2:Nat→Int} {a3:Int} (hX:Fi X 120 [ri n1 g2] res new) (h0: ¬((n1:Nat):Int)<2) (h1: ¬((n1:Nat):Int)>1204) (h2: ¬a3<1) (h3: ¬a3>12) (k:Ok X (aS n1 g2 ((n1:Nat):Int) 0)):
  Ok X (entry Tryz.prog 120 [.sl 0 n1,I a3] [ri n1 g2]):=
 Ok.bg 37 [fb,fb,fb,fb,fb,fb,fb,fb,fb,fb] [cN 61 [0,5,6]] [.ae 0] 1 hX.P hX.gl hX.n0 (by kernel_rfl) (by kernel_rfl) (by exact⟨fun _=>rfl,trivial⟩) (ca (df h0) (ca (df h0) (ca (df h0) (ca (df h1) (ca (df h1) (ca (df h1) (ca (df h2) (ca (df h2) (ca (df h2) (ca (df h3) na)))))))))) k
theorem nh {X:Cx} {n1:Nat} {g2:Nat→Int} {x1 x2:Int} {r5003:Bool} (hX:Fi X 120 [ri n1 g2] (B false) []) (h0:x2<x1) (h1:(0:Int)≤x2∧x2<((n1:Nat):Int)) (h2:S 37 [I (g2 x2.toNat)] [] (B r5003) []) (h3:r5003=false):
  Ok X (aS n1 g2 x1 x2):=
 Ok.fin 31 [tb, .call [] (B r5003) [], .draw 15 [] 0,tb,tb,tb,tb,tb,tb] [] 1 hX (by kernel_rfl) rfl (ca (dt h0) (ca h1 (ca (re n1) (ca h1 (ca h2 (ca (nt h3) (ca (nt h3) (ca (nt h3) (ca (nt h3) (ca (nt h3) (ca rt na)))))))))))
theorem ng {X:Cx} {n1:Nat} {g2:Nat→Int} {x1 x2:Int} {r5003:Bool} (hX:Fi X 120 [ri n1 g2] (B false) []) (h0:x2<x1) (h1:(0:Int)≤x2∧x2<((n1:Nat):Int)) (h2:S 37 [I (g2 x2.toNat)] [] (B r5003) []) (h3:r5003=true) (h4:x2>0) (h5:aj .i64 (x2-1)) (h6:(0:Int)≤(x2-1)∧(x2-1)<((n1:Nat):Int)) (h7:(g2 x2.toNat)<(g2 ((x2-1).toNat))):
  Ok X (aS n1 g2 x1 x2):=
 Ok.fin 31 [tb, .call [] (B r5003) [], .draw 15 [] 0,fb,fb,fb,tb,tb,tb,tb,tb,tb,tb,tb,tb,tb,fb,tb,fb,tb] [] 1 hX (by kernel_rfl) rfl (ca (dt h0) (ca h1 (ca (re n1) (ca h1 (ca h2 (ca (nf h3) (ca (nf h3) (ca (nf h3) (ca (dt h4) (ca (dt h4) (ca (dt h4) (ca h1 (ca (re n1) (ca (dt h4) (ca h1 (ca (dt h4) (ca (dt h4) (ca (dt h4) (ca h5 (ca (dt h4) (ca h6 (ca (re n1) (ca (dt h4) (ca h6 (ca (dt h4) (ca (nf h3) (ca (dt h4) (ca (nf h3) (ca (dt h7) na)))))))))))))))))))))))))))))
theorem nc {X:Cx} {res:SV} {new:List (Option Vw)} {n1:Nat} {g2:Nat→Int} {x1 x2:Int} {r5003:Bool} (hX:Fi X 120 [ri n1 g2] res new) (h0:x2<x1) (h1:(0:Int)≤x2∧x2<((n1:Nat):Int)) (h2:S 37 [I (g2 x2.toNat)] [] (B r5003) []) (h3:r5003=true) (h4:x2>0) (h5:aj .i64 (x2-1)) (h6:(0:Int)≤(x2-1)∧(x2-1)<((n1:Nat):Int)) (h7: ¬(g2 x2.toNat)<(g2 ((x2-1).toNat))) (h8:aj .i64 (x2+1)) (k:Ok X (aS n1 g2 x1 (x2+1))):
  Ok X (aS n1 g2 x1 x2):=
 Ok.bg 35 [tb, .call [] (B r5003) [], .draw 15 [] 0,fb,fb,fb,tb,tb,tb,tb,tb,tb,tb,tb,tb,tb,fb,tb,fb,fb] [cN 61 [0,5,6]] [.ae 0] 1 hX.P hX.gl hX.n0 (by kernel_rfl) (by kernel_rfl) (by exact⟨fun _=>rfl,trivial⟩) (ca (dt h0) (ca h1 (ca (re n1) (ca h1 (ca h2 (ca (nf h3) (ca (nf h3) (ca (nf h3) (ca (dt h4) (ca (dt h4) (ca (dt h4) (ca h1 (ca (re n1) (ca (dt h4) (ca h1 (ca (dt h4) (ca (dt h4) (ca (dt h4) (ca h5 (ca (dt h4) (ca h6 (ca (re n1) (ca (dt h4) (ca h6 (ca (dt h4) (ca (nf h3) (ca (dt h4) (ca (nf h3) (ca (df h7) (ca h8 na)))))))))))))))))))))))))))))) k
theorem nb {X:Cx} {res:SV} {new:List (Option Vw)} {n1:Nat} {g2:Nat→Int} {x1 x2:Int} {r5003:Bool} (hX:Fi X 120 [ri n1 g2] res new) (h0:x2<x1) (h1:(0:Int)≤x2∧x2<((n1:Nat):Int)) (h2:S 37 [I (g2 x2.toNat)] [] (B r5003) []) (h3:r5003=true) (h4: ¬x2>0) (h5:aj .i64 (x2+1)) (k:Ok X (aS n1 g2 x1 (x2+1))):
  Ok X (aS n1 g2 x1 x2):=
 Ok.bg 35 [tb, .call [] (B r5003) [], .draw 15 [] 0,fb,fb,fb,fb,fb,fb,fb,fb,fb,fb,fb,fb,fb,fb,fb,fb,fb] [cN 61 [0,5,6]] [.ae 0] 1 hX.P hX.gl hX.n0 (by kernel_rfl) (by kernel_rfl) (by exact⟨fun _=>rfl,trivial⟩) (ca (dt h0) (ca h1 (ca (re n1) (ca h1 (ca h2 (ca (nf h3) (ca (nf h3) (ca (nf h3) (ca (df h4) (ca (df h4) (ca (df h4) (ca (df h4) (ca (df h4) (ca (df h4) (ca (df h4) (ca (df h4) (ca (df h4) (ca (df h4) (ca (nf h3) (ca (df h4) (ca (nf h3) (ca rf (ca h5 na))))))))))))))))))))))) k
theorem m_ {X:Cx} {n1:Nat} {g2:Nat→Int} {x1 x2:Int} (hX:Fi X 120 [ri n1 g2] (B (decide ((g2 0)<(g2 ((x1-1).toNat))))) []) (h0: ¬x2<x1) (h1:(0:Int)≤0∧0<((n1:Nat):Int)) (h2:aj .i64 (x1-1)) (h3:(0:Int)≤(x1-1)∧(x1-1)<((n1:Nat):Int)):
  Ok X (aS n1 g2 x1 x2):=
 Ok.fin 14 [fb, .draw 8 [] 0] [] 1 hX (by kernel_rfl) rfl (ca (df h0) (ca h1 (ca (re n1) (ca h1 (ca h2 (ca h3 (ca (re n1) (ca h3 na))))))))
theorem vB {X:Cx} {n:Nat} {g:Nat→Int} {f:Int} (h1: ¬((n:Nat):Int)<2) (h2: ¬((n:Nat):Int)>1204) (h3: ¬f<1) (h4: ¬f>12) (hX:av X Tryz.prog GL 120 [some (.row false 3 n 1 (fun i=>[I (g i)]))] (B (iR n g f)) []):
  ∀ (m i:Nat),n-i=m→i≤n→(∀ j,j<i→ai (g j)=true)→(∀ j,j+1<i→g j≤g (j+1))→Ok X (aS n g (n:Int) (i:Int))
 |0,i,hm,hi,h,hs=>by
  have hall:(decide (∀ i,i<n→ai (g i)=true))=true:=decide_eq_true (fun j hj=>h j (by omega))
  have hsort:fj n g=true:=decide_eq_true (fun j hj=>hs j (by omega))
  rw[iQ h1 h2 h3 h4,hall,hsort,Bool.true_and,Bool.true_and]at hX
  refine m_ ?_ (by omega) (by omega) (by simp only[aj];omega) (by omega)
  simp_all
 |m+1,i,hm,hi,h,hs=>by
  have e:(i:Int).toNat=i:=rfl
  cases hd:ai (g i)
  ·have hall:(decide (∀ i,i<n→ai (g i)=true))=false:=decide_eq_false (fun hh=>by rw[hh i (by omega)]at hd;cases hd)
   rw[iQ h1 h2 h3 h4,hall,Bool.false_and]at hX
   exact nh hX (by omega) (by omega) (dk _) hd
  ·have hnext:=fun hs'=>vB h1 h2 h3 h4 hX m (i+1) (by omega) (by omega) (fun j hj=>by
    by_cases hji:j=i
    ·subst hji;exact hd
    ·exact h j (by omega)) hs'
   rw[show(((i+1:Nat)):Int)=(i:Int)+1 by omega]at hnext
   by_cases hi0:i=0
   ·subst hi0
    exact nb hX (by omega) (by omega) (dk _) hd (by omega) (by simp only[aj];omega) (hnext (fun j hj=>by omega))
   ·have e2:((i:Int)-1).toNat=i-1:=by omega
    by_cases hlt:g i<g (i-1)
    ·have hsort:fj n g=false:=decide_eq_false (fun hh=>by have:=hh (i-1) (by omega);rw[show i-1+1=i by omega]at this;omega)
     rw[iQ h1 h2 h3 h4,hsort,Bool.false_and,Bool.and_false]at hX
     exact ng hX (by omega) (by omega) (dk _) hd (by omega) (by simp only[aj];omega) (by omega) (by rw[e2];exact hlt)
    ·refine nc hX (by omega) (by omega) (dk _) hd (by omega) (by simp only[aj];omega) (by omega) (by rw[e2];exact hlt) (by simp only[aj];omega) (hnext (fun j hj=> ?_))
     grind
theorem FL {n:Nat} {g:Nat→Int} {f:Int}:ab Tryz.prog GL 120 [.sl 0 n,I f] [some (.row false 3 n 1 (fun i=>[I (g i)]))] (B (iR n g f)) []:=by
 by_cases h1:((n:Nat):Int)<2
 ·rw[show iR n g f=false from decide_eq_false (by omega)];exact nu h1
 by_cases h2:((n:Nat):Int)>1204
 ·rw[show iR n g f=false from decide_eq_false (by omega)];exact ns h1 h2
 by_cases h3:f<1
 ·rw[show iR n g f=false from decide_eq_false (by omega)];exact nq h1 h2 h3
 by_cases h4:f>12
 ·rw[show iR n g f=false from decide_eq_false (by omega)];exact nj h1 h2 h3 h4
 refine ab.of (by kernel_rfl) rfl ⟨fun i=>rfl,trivial⟩ rfl (fun X hX=> ?_)
 exact ni hX h1 h2 h3 h4 (vB h1 h2 h3 h4 hX n 0 rfl (by omega) (fun j hj=>by omega) (fun j hj=>by omega))
end Go.Proofs.YtelidogcomffkaaGreatDoor
namespace Go.Proofs.YtelidogcomffkaaGreatDoor
open Go Go.Sx
variable [Env]
abbrev QV (q:Rat):SV:= .agg [I q.num,I (q.den:Int)]
abbrev RQ (q:Rat):SV:=RT (q.num,(q.den:Int),0)
theorem jE (n:Nat) {d:Nat} (hd:d≠0):(mkRat (n:Int) d).num=((n/Nat.gcd n d:Nat):Int):=by
 rw[Rat.num_mkRat,if_neg hd,Int.natAbs_natCast,Nat.gcd_comm];simp
theorem jO (n:Nat) {d:Nat} (hd:d≠0):(mkRat (n:Int) d).den=d/Nat.gcd n d:=by
 rw[Rat.den_mkRat,if_neg hd,Int.natAbs_natCast,Nat.gcd_comm]
theorem DX {n d:Nat} (hd:d≠0) (h1:(mkRat (n:Int) d).num≤4611686018427387904) (h2:(mkRat (n:Int) d).den≤4611686018427387904):Br n d=((mkRat (n:Int) d).num,((mkRat (n:Int) d).den:Int),0):=by
 rw[jE n hd]at h1
 rw[jO n hd]at h2
 rw[jE n hd,jO n hd]
 unfold Br
 rw[if_neg (by omega)]
theorem zG (n:Nat) {d:Nat} (hd:d≠0):(mkRat (n:Int) d).num≤n:=by
 rw[jE n hd];have:=Nat.div_le_self n (Nat.gcd n d);omega
theorem Al (n:Nat) {d:Nat} (hd:d≠0):(mkRat (n:Int) d).den≤d:=by
 rw[jO n hd];exact Nat.div_le_self d (Nat.gcd n d)
theorem zJ {n d:Nat} (hd:d≠0) (h1:n≤4611686018427387904) (h2:d≤4611686018427387904):Br n d=((mkRat (n:Int) d).num,((mkRat (n:Int) d).den:Int),0):=
 DX hd (by have:=zG n hd;omega) (Nat.le_trans (Al n hd) h2)
theorem Iq {n d:Nat} (hd:d≠0) (h1:n≤4611686018427387904) (h2:d≤4611686018427387904):ab Tryz.prog GL 191 [I (n:Int),I (d:Int)] [] (RQ (mkRat (n:Int) d)) []:=by
 have:= @G1 _ n d (by omega) (by omega) hd
 rwa [zJ hd h1 h2]at this
theorem Da {n d:Nat} (hd:d≠0) (h1:n≤4611686018427387904) (h2:d≤4611686018427387904):ab Tryz.prog GL 117 [I (n:Int),I (d:Int)] [] (RQ (mkRat (n:Int) d)) []:=by
 have:= @A6 _ n d (by omega) (by omega) hd
 rwa [zJ hd h1 h2]at this
theorem gC (C c:Nat) {M:Nat} (hM:M≠0):mkRat (C:Int) M+mkRat (c:Int) M=mkRat ((C+c:Nat):Int) M:=by
 rw[Rat.mkRat_add_mkRat _ _ hM hM,←Int.add_mul,Rat.mkRat_mul_right hM]
 congr 1
theorem v8 {C c M:Nat} (hM:M≠0) (hCM:C+c≤4611686018427387904) (hM2:M≤4611686018427387904):
  ∃ a p b q:Nat,mkRat (C:Int) M=mkRat (a:Int) p∧(mkRat (C:Int) M).num=(a:Int)∧(mkRat (C:Int) M).den=p∧(mkRat (c:Int) M).num=(b:Int)∧(mkRat (c:Int) M).den=q∧p≠0∧q≠0∧Nat.Coprime a p∧Nat.Coprime b q∧
    a≤C∧b≤c∧p≤M∧q≤M∧a*(q/Nat.gcd p q)+b*(p/Nat.gcd p q)≤C+c∧Br (a*q+b*p) (p*q)=((mkRat ((C+c:Nat):Int) M).num,((mkRat ((C+c:Nat):Int) M).den:Int),0):=by
 have hg1:0<Nat.gcd C M:=Nat.pos_of_ne_zero fun h=>hM (Nat.eq_zero_of_gcd_eq_zero_right h)
 have hg2:0<Nat.gcd c M:=Nat.pos_of_ne_zero fun h=>hM (Nat.eq_zero_of_gcd_eq_zero_right h)
 have hC:=Nat.div_mul_cancel (Nat.gcd_dvd_left C M)
 have hp:=Nat.div_mul_cancel (Nat.gcd_dvd_right C M)
 have hc:=Nat.div_mul_cancel (Nat.gcd_dvd_left c M)
 have hq:=Nat.div_mul_cancel (Nat.gcd_dvd_right c M)
 have hcop1:=Nat.coprime_div_gcd_div_gcd hg1
 have hcop2:=Nat.coprime_div_gcd_div_gcd hg2
 have e1:=jE C hM
 have e2:=jO C hM
 have e3:=jE c hM
 have e4:=jO c hM
 generalize C/Nat.gcd C M=a at*
 generalize M/Nat.gcd C M=p at*
 generalize c/Nat.gcd c M=b at*
 generalize M/Nat.gcd c M=q at*
 generalize Nat.gcd C M=g1 at*
 generalize Nat.gcd c M=g2 at*
 have hp0:p≠0:=fun h=>hM (by rw[←hp,h,Nat.zero_mul])
 have hq0:q≠0:=fun h=>hM (by rw[←hq,h,Nat.zero_mul])
 have hS:mkRat (C:Int) M=mkRat (a:Int) p:=by
  conv=>lhs;rw[←Rat.mkRat_self (mkRat (C:Int) M)]
  rw[e1,e2]
 have hx:mkRat (c:Int) M=mkRat (b:Int) q:=by
  conv=>lhs;rw[←Rat.mkRat_self (mkRat (c:Int) M)]
  rw[e3,e4]
 have hsum:mkRat ((a*q+b*p:Nat):Int) (p*q)=mkRat ((C+c:Nat):Int) M:=by
  rw[←gC C c hM,hS,hx,Rat.mkRat_add_mkRat _ _ hp0 hq0]
  congr 1
 have hgp:0<Nat.gcd p q:=Nat.pos_of_ne_zero fun h=>hp0 (Nat.eq_zero_of_gcd_eq_zero_left h)
 have hl:Nat.lcm p q∣M:=Nat.lcm_dvd ⟨g1,hp.symm⟩ ⟨g2,hq.symm⟩
 obtain⟨t,ht⟩:=hl
 have ht0:0<t:=Nat.pos_of_ne_zero fun h=>hM (by rw[ht,h,Nat.mul_zero])
 have hl1:Nat.lcm p q=p*(q/Nat.gcd p q):=Nat.mul_div_assoc _ (Nat.gcd_dvd_right p q)
 have hl2:Nat.lcm p q=q*(p/Nat.gcd p q):=by rw[Nat.lcm_comm,Nat.gcd_comm];exact Nat.mul_div_assoc _ (Nat.gcd_dvd_right q p)
 have hg1e:g1=q/Nat.gcd p q*t:=by
  have:p*g1=p*(q/Nat.gcd p q*t):=by rw[←Nat.mul_assoc,←hl1,←ht];exact hp
  exact Nat.eq_of_mul_eq_mul_left (Nat.pos_of_ne_zero hp0) this
 have hg2e:g2=p/Nat.gcd p q*t:=by
  have:q*g2=q*(p/Nat.gcd p q*t):=by rw[←Nat.mul_assoc,←hl2,←ht];exact hq
  exact Nat.eq_of_mul_eq_mul_left (Nat.pos_of_ne_zero hq0) this
 have hle1:a*(q/Nat.gcd p q)≤C:=by
  rw[←hC,hg1e]
  exact Nat.mul_le_mul_left _ (Nat.le_mul_of_pos_right _ ht0)
 have hle2:b*(p/Nat.gcd p q)≤c:=by
  rw[←hc,hg2e]
  exact Nat.mul_le_mul_left _ (Nat.le_mul_of_pos_right _ ht0)
 have n1:=zG (C+c) hM
 have d1:=Al (C+c) hM
 refine⟨a,p,b,q,hS,e1,e2,e3,e4,hp0,hq0,hcop1,hcop2, ?_, ?_, ?_, ?_,by omega, ?_⟩
 ·rw[←hC];exact Nat.le_mul_of_pos_right _ hg1
 ·rw[←hc];exact Nat.le_mul_of_pos_right _ hg2
 ·rw[←hp];exact Nat.le_mul_of_pos_right _ hg1
 ·rw[←hq];exact Nat.le_mul_of_pos_right _ hg2
 ·rw[DX (Nat.mul_ne_zero hp0 hq0) (by rw[hsum];omega) (by rw[hsum];omega),hsum]
theorem Iu {C c M:Nat} (hM:M≠0) (hCM:C+c≤4611686018427387904) (hM2:M≤4611686018427387904):
  ab Tryz.prog GL 195 [QV (mkRat (C:Int) M),QV (mkRat (c:Int) M)] [] (RQ (mkRat ((C+c:Nat):Int) M)) []:=by
 obtain⟨a,p,b,q, -,e1,e2,e3,e4,hp,hq,h1,h2,h3,h4,h5,h6,h7,h8⟩:=v8 hM hCM hM2
 have:= @G2 _ a p b q hp hq h1 h2 (by omega) (by omega) (by omega) (by omega) (by omega)
 rw[h8]at this
 unfold QV
 rw[e1,e2,e3,e4]
 exact this
theorem Db {C c M:Nat} (hM:M≠0) (hCM:C+c≤4611686018427387904) (hM2:M≤4611686018427387904):
  ab Tryz.prog GL 119 [QV (mkRat (C:Int) M),QV (mkRat (c:Int) M)] [] (RQ (mkRat ((C+c:Nat):Int) M)) []:=by
 obtain⟨a,p,b,q, -,e1,e2,e3,e4,hp,hq,h1,h2,h3,h4,h5,h6,h7,h8⟩:=v8 hM hCM hM2
 have:= @A7 _ a p b q (by omega) (by omega) (by omega) (by omega) hp hq
 rw[h8]at this
 unfold QV
 rw[e1,e2,e3,e4]
 exact this
end Go.Proofs.YtelidogcomffkaaGreatDoor
namespace Go.Proofs.YtelidogcomffkaaGreatDoor
open Go Go.Sx
variable [Env]
theorem vT (a b:Int):ab Tryz.prog GL 171 [.dZ 322 (.agg [I a,I b, .val (bK Env.n0)]), .val (bK Env.n0)] [] (B true) []:=by
 have:=tH a b (x:=Env.n0) (y:=Env.n0) (.inl rfl) (.inl rfl);rwa [decide_eq_true rfl]at this
theorem Ei (a b:Int):ab Tryz.prog GL 171 [.dZ 322 (.agg [I a,I b, .val (bK Env.n1)]), .val (bK Env.n1)] [] (B true) []:=by
 have:=tH a b (x:=Env.n1) (y:=Env.n1) (.inr rfl) (.inr rfl);rwa [decide_eq_true rfl]at this
theorem Ej (a b:Int):ab Tryz.prog GL 171 [.dZ 322 (.agg [I a,I b, .val (bK Env.n1)]), .val (bK Env.n0)] [] (B false) []:=by
 have:=tH a b (x:=Env.n1) (y:=Env.n0) (.inr rfl) (.inl rfl);rwa [decide_eq_false Env.ne.symm]at this
theorem DY {n d:Int} (hn:0≤n∧n≤4611686018427387904) (hd:0<d∧d≤4611686018427387904):kA n d=((mkRat n d.toNat).num,((mkRat n d.toNat).den:Int),0):=by
 unfold kA
 have:=zJ (n:=n.toNat) (d:=d.toNat) (by omega) (by omega) (by omega)
 grind
theorem BY {C c M N:Nat} (hM:M≠0) (hN:N≠0) (hC:C≤100000000) (hc:c≤100000000) (h1:M≤1000000) (h2:N≤1000000):
  ∃ a p b q:Nat,(mkRat (C:Int) M).num=(a:Int)∧(mkRat (C:Int) M).den=p∧(mkRat (c:Int) N).num=(b:Int)∧(mkRat (c:Int) N).den=q∧p≠0∧q≠0∧Nat.Coprime a p∧Nat.Coprime b q∧
    a≤C∧b≤c∧p≤M∧q≤N∧a*(q/Nat.gcd p q)+b*(p/Nat.gcd p q)<18446744073709551616∧
    Br (a*q+b*p) (p*q)=((mkRat ((C*N+c*M:Nat):Int) (M*N)).num,((mkRat ((C*N+c*M:Nat):Int) (M*N)).den:Int),0):=by
 have hg1:0<Nat.gcd C M:=Nat.pos_of_ne_zero fun h=>hM (Nat.eq_zero_of_gcd_eq_zero_right h)
 have hg2:0<Nat.gcd c N:=Nat.pos_of_ne_zero fun h=>hN (Nat.eq_zero_of_gcd_eq_zero_right h)
 have lC:=Nat.div_le_self C (Nat.gcd C M)
 have lc:=Nat.div_le_self c (Nat.gcd c N)
 have lM:=Nat.div_le_self M (Nat.gcd C M)
 have lN:=Nat.div_le_self N (Nat.gcd c N)
 have hp:=Nat.div_mul_cancel (Nat.gcd_dvd_right C M)
 have hq:=Nat.div_mul_cancel (Nat.gcd_dvd_right c N)
 have hcop1:=Nat.coprime_div_gcd_div_gcd hg1
 have hcop2:=Nat.coprime_div_gcd_div_gcd hg2
 have e1:=jE C hM
 have e2:=jO C hM
 have e3:=jE c hN
 have e4:=jO c hN
 generalize C/Nat.gcd C M=a at*
 generalize M/Nat.gcd C M=p at*
 generalize c/Nat.gcd c N=b at*
 generalize N/Nat.gcd c N=q at*
 have hp0:p≠0:=fun h=>hM (by rw[←hp,h,Nat.zero_mul])
 have hq0:q≠0:=fun h=>hN (by rw[←hq,h,Nat.zero_mul])
 have hS:mkRat (C:Int) M=mkRat (a:Int) p:=by
  conv=>lhs;rw[←Rat.mkRat_self (mkRat (C:Int) M)]
  rw[e1,e2]
 have hx:mkRat (c:Int) N=mkRat (b:Int) q:=by
  conv=>lhs;rw[←Rat.mkRat_self (mkRat (c:Int) N)]
  rw[e3,e4]
 have hsum:mkRat ((a*q+b*p:Nat):Int) (p*q)=mkRat ((C*N+c*M:Nat):Int) (M*N):=by
  have h3:=Rat.mkRat_add_mkRat (a:Int) (b:Int) hp0 hq0
  have h4:=Rat.mkRat_add_mkRat (C:Int) (c:Int) hM hN
  simp_all
 have b1:C*N≤100000000*1000000:=Nat.mul_le_mul hC h2
 have b2:c*M≤100000000*1000000:=Nat.mul_le_mul hc h1
 have b3:M*N≤1000000*1000000:=Nat.mul_le_mul h1 h2
 have hMN:M*N≠0:=Nat.mul_ne_zero hM hN
 have n1:=zG (C*N+c*M) hMN
 have d1:=Al (C*N+c*M) hMN
 have b4:a*(q/Nat.gcd p q)≤100000000*1000000:=Nat.mul_le_mul (by omega) (Nat.le_trans (Nat.div_le_self _ _) (by omega))
 have b5:b*(p/Nat.gcd p q)≤100000000*1000000:=Nat.mul_le_mul (by omega) (Nat.le_trans (Nat.div_le_self _ _) (by omega))
 refine⟨a,p,b,q,e1,e2,e3,e4,hp0,hq0,hcop1,hcop2,lC,lc,lM,lN,by omega, ?_⟩
 rw[DX (Nat.mul_ne_zero hp0 hq0) (by rw[hsum];omega) (by rw[hsum];omega),hsum]
theorem Iv {C c M N:Nat} (hM:M≠0) (hN:N≠0) (hC:C≤100000000) (hc:c≤100000000) (h1:M≤1000000) (h2:N≤1000000):
  ab Tryz.prog GL 195 [QV (mkRat (C:Int) M),QV (mkRat (c:Int) N)] [] (RQ (mkRat ((C*N+c*M:Nat):Int) (M*N))) []:=by
 obtain⟨a,p,b,q,e1,e2,e3,e4,hp,hq,g1,g2,g3,g4,g5,g6,g7,g8⟩:=BY hM hN hC hc h1 h2
 have:=G2 (a:=a) (p:=p) (b:=b) (q:=q) hp hq g1 g2 (by omega) (by omega) (by omega) (by omega) g7
 grind
theorem Dc {C c M N:Nat} (hM:M≠0) (hN:N≠0) (hC:C≤100000000) (hc:c≤100000000) (h1:M≤1000000) (h2:N≤1000000):
  ab Tryz.prog GL 119 [QV (mkRat (C:Int) M),QV (mkRat (c:Int) N)] [] (RQ (mkRat ((C*N+c*M:Nat):Int) (M*N))) []:=by
 obtain⟨a,p,b,q,e1,e2,e3,e4,hp,hq,g1,g2,g3,g4,g5,g6,g7,g8⟩:=BY hM hN hC hc h1 h2
 have:=A7 (a:=a) (b:=p) (c:=b) (d:=q) (by omega) (by omega) (by omega) (by omega) hp hq
 grind
theorem vp {a1:Int} {res:SV} (H: ∃ r2 r3:Int,S 180 [.agg [I a1,I 1,I 1]] [] (.af [I r2,I r3]) []∧ ∃ r4:Bool,S 121 [I a1] [] (B r4) []∧(r4=true→(SV.af [I r2,I 366])=res)∧(r4=false→(SV.af [I r2,I 365])=res)):
  S 194 [I a1] [] res []:=by
 refine ab.st fun X hX=> ?_
 obtain⟨r2,r3,h0,r4,h1,H1,H2⟩:=H
 refine hX.go [c_ [] h0,c_ [] h1] ?_
 rcases aq r4 with h2|h2
 ·obtain rfl:=H1 h2
  exact hX.e [t_ h2]
 ·obtain rfl:=H2 h2
  exact hX.e [f_ h2]
theorem He (y:Int):mL y 1 1=bY y+1:=by unfold mL;show bY y+1+0=_;omega
theorem Kc {y:Int} (h1:1≤y) (h2:y≤9999):dL y 1 1=true:=by
 unfold dL;rw[decide_eq_true_eq];refine⟨h1,h2,by decide,by decide,by decide, ?_⟩
 unfold len;simp[lens]
theorem HG {y:Int} (h1:1≤y) (h2:y≤9999):ab Tryz.prog GL 194 [I y] [] (.af [I (bY y+1),I (if lp y=true then 366 else 365)]) []:=by
 have:=BS (Kc h1 h2)
 rw[He]at this
 exact vp ⟨_,_,this,_,E_ (by omega),fun h=>by rw[if_pos h],fun h=>by simp[h]⟩
theorem nv {a1 a2:Int} {res:SV} (H:((ai a1)=false→I 3=res)∧((ai a1)=true→((ai a2)=false→I 3=res)∧((ai a2)=true→(a1>a2→I 4=res)∧(¬a1>a2→I 0=res)))):
  S 116 [I a1,I a2] [] res []:=by
 refine ab.st fun X hX=> ?_
 obtain⟨H1,H2⟩:=H
 refine hX.go [c_ [] (dk a1),c_ [] (dk a2)] ?_
 rcases aq (ai a1)with h0|h0
 ·obtain⟨H1,H2⟩:=H2 h0
  refine hX.go [f_ (nf h0),f_ (nf h0),f_ (nf h0)] ?_
  rcases aq (ai a2)with h1|h1
  ·obtain⟨H1,H2⟩:=H2 h1
   refine hX.go [f_ (nf h1)] ?_
   by_cases h2:a1>a2
   ·obtain rfl:=H1 h2
    exact hX.e [t_ (dt h2)]
   ·obtain rfl:=H2 h2
    exact hX.e [f_ (df h2)]
  ·obtain rfl:=H1 h1
   exact hX.e [t_ (nt h1)]
 ·obtain rfl:=H1 h0
  exact hX.e [t_ (nt h0),t_ (nt h0),t_ (nt h0),t_ rt]
theorem HK (a b:Int):ab Tryz.prog GL 116 [I a,I b] [] (I (ck a b)) []:=by
 refine nv ⟨fun h=> ?_,fun h=>⟨fun h1=> ?_,fun h1=>⟨fun h2=> ?_,fun h2=> ?_⟩⟩⟩<;>simp[ck,h, *]
theorem jZ {a1 a2:Int} {res:SV} (H:((ck a1 a2)≠0→(SV.af [.agg [I 0,I 0],I (ck a1 a2)])=res)∧((ck a1 a2)=0→Ir (a2-a1)∧sf (a2-a1)∧RT (kA (a2-a1) 360)=res)):
  S 84 [I a1,I a2] [] res []:=by
 refine ab.st fun X hX=> ?_
 obtain⟨H1,H2⟩:=H
 refine hX.go [c_ [] (HK a1 a2)] ?_
 by_cases h0:(ck a1 a2)=0
 ·obtain⟨h1,h2,rfl⟩:=H2 h0
  exact hX.e [f_ (bne_eq_false_iff_eq.2 h0),q_ h1,c_ [] (show S 117 [I (a2-a1),I 360] [] (RT (kA (a2-a1) 360)) []from iK h2 (by decide))]
 ·obtain rfl:=H1 h0
  exact hX.e [t_ (bne_iff_ne.2 h0)]
def r8 (a b d:Int):Int×Int×Int:=if ck a b=0 then kA (b-a) d else(0,0,ck a b)
theorem mH {a b d:Int} (h:ck a b≠0):r8 a b d=(0,0,ck a b):=by unfold r8;rw[if_neg h]
theorem qE {a b:Int} (h:ck a b=0):(1≤a∧a≤3652059)∧(1≤b∧b≤3652059)∧a≤b:=by
 rw[ku,aP,aP]at h;omega
theorem vI (a b:Int):ab Tryz.prog GL 84 [I a,I b] [] (RT (r8 a b 360)) []:=
 jZ ⟨fun h=>by rw[mH h],fun h=>by
  have:=qE h
  exact⟨by simp only[Ir,aj];omega,by unfold sf;omega,by rw[r8,if_pos h]⟩⟩
theorem jY {a1 a2:Int} {res:SV} (H:((ck a1 a2)≠0→(SV.af [.agg [I 0,I 0],I (ck a1 a2)])=res)∧((ck a1 a2)=0→Ir (a2-a1)∧sf (a2-a1)∧RT (kA (a2-a1) 365)=res)):
  S 85 [I a1,I a2] [] res []:=by
 refine ab.st fun X hX=> ?_
 obtain⟨H1,H2⟩:=H
 refine hX.go [c_ [] (HK a1 a2)] ?_
 by_cases h0:(ck a1 a2)=0
 ·obtain⟨h1,h2,rfl⟩:=H2 h0
  exact hX.e [f_ (bne_eq_false_iff_eq.2 h0),q_ h1,c_ [] (show S 117 [I (a2-a1),I 365] [] (RT (kA (a2-a1) 365)) []from iK h2 (by decide))]
 ·obtain rfl:=H1 h0
  exact hX.e [t_ (bne_iff_ne.2 h0)]
theorem vH (a b:Int):ab Tryz.prog GL 85 [I a,I b] [] (RT (r8 a b 365)) []:=
 jY ⟨fun h=>by rw[mH h],fun h=>by
  have:=qE h
  exact⟨by simp only[Ir,aj];omega,by unfold sf;omega,by rw[r8,if_pos h]⟩⟩
noncomputable def bN (x1:Int) (x2:Int) (x3:Int) (x4:Int) (x5:Int) (x6:Int):SC:=
 ⟨[⟨118,bJ 44 [(0,I x1),(3, .ptr 0 0),(5,I x2),(6,I x3)],[.code (aa Tryz.f118 [1,1,1,0,1,0,0]), .inLoop (aa Tryz.f118 [1,1,1,0,1,0,0]), .inBlock 0, .code (aa Tryz.f118 [1,1,1,1])],{}⟩],[some (.box true [I x4,I x5,I x6])]⟩
theorem iV {X:Cx} {a1:Int} {res:SV} (hX:Fi X 118 [] res []) (H:Ok X (bN a1 0 4 (cY a1) (cM a1) (cD a1))):
  Ok X (entry Tryz.prog 118 [I a1] []):=by
 exact hX.h 26 [c_ [] (rX a1)] (aA 1) H
theorem iU {X:Cx} {x1 x2 x3 x4 x5 x6:Int} {res:SV} (hX:Fi X 118 [] res []) (H:(x3<x4→ ∃ r5007:Bool,S 99 [I x3] [] (B r5007) []∧(r5007=true→Ir (x2+366)∧Ir (x3+4)∧Ok X (bN x1 (x2+366) (x3+4) x4 x5 x6))∧(r5007=false→Ir (x3+4)∧Ok X (bN x1 x2 (x3+4) x4 x5 x6)))∧(¬x3<x4→ ∃ r5007:Bool,S 99 [I x4] [] (B r5007) []∧(r5007=true→ ∃ r5008 r5009:Int,S 112 [.agg [I x4,I 1,I 1]] [] (.af [I r5008,I r5009]) []∧Ir (x2+x1)∧Ir ((x2+x1)-r5008)∧I ((x2+x1)-r5008)=res)∧(r5007=false→I x2=res))):
  Ok X (bN x1 x2 x3 x4 x5 x6):=by
 obtain⟨H1,H2⟩:=H
 by_cases h0:x3<x4
 ·obtain⟨r5007,h1,H1,H2⟩:=H1 h0
  refine hX.go [t_ (dt h0),c_ [] h1] ?_
  rcases aq r5007 with h2|h2
  ·obtain⟨h3,h4,k⟩:=H1 h2
   exact hX.h 13 [t_ h2,q_ h3,q_ h4] (aA 1) k
  ·obtain⟨h3,k⟩:=H2 h2
   exact hX.h 9 [f_ h2,q_ h3] (aA 1) k
 ·obtain⟨r5007,h1,H1,H2⟩:=H2 h0
  refine hX.go [f_ (df h0),c_ [] h1] ?_
  rcases aq r5007 with h2|h2
  ·obtain⟨r5008,r5009,h3,h4,h5,rfl⟩:=H1 h2
   exact hX.e [t_ h2,c_ [] h3,q_ h4,q_ h5]
  ·obtain rfl:=H2 h2
   exact hX.e [f_ h2]
def nl (y:Int):Int:=(y-1)/4-(y-1)/100+(y-1)/400
def lG (y p:Int):Int:=366*nl y+if lp y=true then p-(bY y+1)else 0
def lD (n:Int):Int:=lG (cY n) n
theorem F6 (y:Int):nl (y+1)=nl y+if lp y=true then 1 else 0:=by
 unfold nl lp
 grind
theorem F7 {y:Int} (h:y%4=0):nl (y+4)=nl y+if lp y=true then 1 else 0:=by
 unfold nl lp
 grind
theorem Hj {y:Int} (h1:1≤y) (h2:y≤10004):0≤nl y∧nl y≤3000:=by unfold nl;omega
theorem xg {y:Int} (h1:1≤y) (h2:y≤10004):0≤bY y∧bY y≤3655000:=by unfold bY;omega
theorem gI {n:Int} (h:ai n=true):1≤cY n∧cY n≤9999∧bY (cY n)+1≤n∧n≤bY (cY n+1):=by
 have h':=aP.1 h
 have e:cY n=(fc n).1:=by unfold cY dT;rw[if_pos h]
 obtain⟨a1,a2,a3,a4,a5⟩:=qm h'.1 h'.2
 rw[wM]at a4
 have:=fF _ a1
 grind
theorem xE {X:Cx} {n:Int} (h:ai n=true) {x5 x6:Int} (hX:Fi X 118 [] (I (lD n)) []):
  ∀ (m:Nat) (k:Int),(cY n+4-k).toNat=m→4≤k→k%4=0→k<cY n+4→Ok X (bN n (366*nl k) k (cY n) x5 x6):=by
 intro m
 induction m using Nat.strongRecOn with
 |_ m ih=>
  intro k hm hk h4 hk2
  obtain⟨a1,a2,a3,a4⟩:=gI h
  have hb:=Hj (y:=k) (by omega) (by omega)
  have hb2:=xg a1 (by omega)
  have h':=aP.1 h
  have hs:=F7 h4
  refine iU hX ⟨fun c=>⟨_,vK (by omega),fun l=> ?_,fun l=> ?_⟩,fun c=>⟨_,vK (by omega),fun l=> ?_,fun l=> ?_⟩⟩
  ·rw[if_pos l]at hs
   refine⟨by simp only[Ir,aj];omega,by simp only[Ir,aj];omega, ?_⟩
   grind
  ·rw[l]at hs
   refine⟨by simp only[Ir,aj];omega, ?_⟩
   grind
  ·have e:nl k=nl (cY n):=by unfold nl;omega
   have hn:=Bd (Kc a1 a2)
   rw[He]at hn
   refine⟨_,_,hn,by simp only[Ir,aj];omega,by simp only[Ir,aj];omega, ?_⟩
   grind [lD,lG,nl]
  ·have e:nl k=nl (cY n):=by unfold nl;omega
   unfold lD lG;rw[l,e];simp
theorem C_ {n:Int} (h:ai n=true):ab Tryz.prog GL 118 [I n] [] (I (lD n)) []:=by
 refine ab.of (by kernel_rfl) rfl trivial rfl (fun X hX=> ?_)
 have:=gI h
 exact iV hX (xE h hX _ 4 rfl (by omega) (by omega) (by omega))
theorem Ea {y:Int} (hy:1≤y):lG y (bY (y+1)+1)=lG (y+1) (bY (y+1)+1):=by
 have h1:=F6 y
 have h2:=fF y hy
 grind [lG]
theorem BA {y p q:Int} (h:p≤q):0≤lG y q-lG y p∧lG y q-lG y p≤q-p:=by unfold lG;split<;>omega
theorem sq {y p:Int} (hy:1≤y) (h:p≤bY (y+1)+1): ∀ (k:Nat) (q:Int),bY (y+k)+1≤q→p≤q→0≤lG (y+k) q-lG y p∧lG (y+k) q-lG y p≤q-p
 |0,q,h1,h2=>by rw[show y+((0:Nat):Int)=y by omega];exact BA h2
 |k+1,q,h1,h2=>by
  have e:y+((k+1:Nat):Int)=(y+(k:Int))+1:=by omega
  rw[e]at h1⊢
  have hm:bY (y+1)≤bY (y+(k:Int)+1):=fH (by omega)
  have hm2:bY (y+(k:Int))≤bY (y+(k:Int)+1):=fH (by omega)
  have ih:=sq hy h k (bY (y+(k:Int)+1)+1) (by omega) (by omega)
  rw[Ea (by omega)]at ih
  have:= @BA _ (y+(k:Int)+1) _ _ h1
  omega
theorem AL {a b:Int} (ha:ai a=true) (hb:ai b=true) (h:a≤b):cY a≤cY b:=by
 have h1:=gI ha
 have h2:=gI hb
 rcases Int.lt_or_le (cY b) (cY a)with h3|h3
 ·have:=fH (a:=cY b+1) (b:=cY a) (by omega);omega
 ·exact h3
theorem BB {a b:Int} (h:ck a b=0):0≤lD b-lD a∧lD b-lD a≤b-a:=by
 have h':=ku.1 h
 have h1:=gI h'.1
 have h2:=gI h'.2.1
 have h3:=AL h'.1 h'.2.1 (by omega)
 have:=sq h1.1 (p:=a) (by omega) (cY b-cY a).toNat b (by rw[show cY a+((cY b-cY a).toNat:Int)=cY b by omega];omega) (by omega)
 rw[show cY a+((cY b-cY a).toNat:Int)=cY b by omega]at this
 exact this
theorem iu {a1 a2:Int} {res:SV} (H:((ck a1 a2)≠0→(SV.af [.agg [I 0,I 0],I (ck a1 a2)])=res)∧((ck a1 a2)=0→ ∃ r3:Int,S 118 [I a2] [] (I r3) []∧ ∃ r4:Int,S 118 [I a1] [] (I r4) []∧Ir (r3-r4)∧sf (r3-r4)∧Ir (a2-a1)∧Ir ((a2-a1)-(r3-r4))∧sf ((a2-a1)-(r3-r4))∧ ∃ r5 r6 r7:Int,S 119 [.agg [I ((kA (r3-r4) 366).1),I ((kA (r3-r4) 366).2.1)], .agg [I ((kA ((a2-a1)-(r3-r4)) 365).1),I ((kA ((a2-a1)-(r3-r4)) 365).2.1)]] [] (.af [.agg [I r5,I r6],I r7]) []∧(SV.af [.agg [I r5,I r6],I r7])=res)):
  S 86 [I a1,I a2] [] res []:=by
 refine ab.st fun X hX=> ?_
 obtain⟨H1,H2⟩:=H
 refine hX.go [c_ [] (HK a1 a2)] ?_
 by_cases h0:(ck a1 a2)=0
 ·obtain⟨r3,h1,r4,h2,h3,h4,h5,h6,h7,r5,r6,r7,h8,rfl⟩:=H2 h0
  exact hX.e [f_ (bne_eq_false_iff_eq.2 h0),c_ [] h1,c_ [] h2,q_ h3,c_ [] (show S 117 [I (r3-r4),I 366] [] (RT (kA (r3-r4) 366)) []from iK h4 (by decide)),q_ h5,q_ h6,c_ [] (show S 117 [I ((a2-a1)-(r3-r4)),I 365] [] (RT (kA ((a2-a1)-(r3-r4)) 365)) []from iK h7 (by decide)),c_ [] h8]
 ·obtain rfl:=H1 h0
  exact hX.e [t_ (bne_iff_ne.2 h0)]
def q8 (o i:Int):Rat:=mkRat (((o.toNat*366+i.toNat*365:Nat)):Int) (365*366)
def Bh (a b:Int):Int×Int×Int:=if ck a b=0 then((q8 (b-a-(lD b-lD a)) (lD b-lD a)).num,((q8 (b-a-(lD b-lD a)) (lD b-lD a)).den:Int),0)else(0,0,ck a b)
theorem si {a b:Int} (h:ck a b≠0):Bh a b=(0,0,ck a b):=by unfold Bh;rw[if_neg h]
theorem rB (a b:Int):ab Tryz.prog GL 86 [I a,I b] [] (RT (Bh a b)) []:=
 iu ⟨fun h=>by rw[si h],fun h=>by
  have h0:=qE h
  have h1:=BB h
  have h':=ku.1 h
  have hB: ∀ n,ai n=true→ -1000000≤lD n∧lD n≤9000000:=fun n hn=>by
   have d:=gI hn
   have:=Hj d.1 (by omega)
   have:=xg d.1 (by omega)
   have:=aP.1 hn
   unfold lD lG;split<;>omega
  have hBa:=hB a h'.1
  have hBb:=hB b h'.2.1
  refine⟨_,C_ h'.2.1,_,C_ h'.1,by simp only[Ir,aj];omega,by unfold sf;omega,by simp only[Ir,aj];omega,by simp only[Ir,aj];omega,by unfold sf;omega, ?_⟩
  have:=Dc (C:=(lD b-lD a).toNat) (M:=366) (c:=(b-a-(lD b-lD a)).toNat) (N:=365) (by decide) (by decide) (by omega) (by omega) (by decide) (by decide)
  rw[show(((lD b-lD a).toNat:Nat):Int)=lD b-lD a by omega,show(((b-a-(lD b-lD a)).toNat:Nat):Int)=b-a-(lD b-lD a)by omega]at this
  rw[DY (n:=lD b-lD a) (d:=366) (by omega) (by decide),DY (n:=b-a-(lD b-lD a)) (d:=365) (by omega) (by decide)]
  refine⟨_,_,_,this, ?_⟩
  unfold Bh q8
  rw[if_pos h,Nat.add_comm]⟩
theorem uG {a1 a2:Int} {res:SV} (H:((cE a1)≠0→(SV.af [.agg [I 0,I 0],I 3])=res)∧((cE a1)=0→((cE a2)≠0→(SV.af [.agg [I 0,I 0],I 3])=res)∧((cE a2)=0→(a1>a2→(SV.af [.agg [I 0,I 0],I 4])=res)∧(¬a1>a2→Ir (a2-a1)∧sf (a2-a1)∧RT (kA (a2-a1) 360)=res)))):
  S 147 [I a1,I a2] [] res []:=by
 refine ab.st fun X hX=> ?_
 obtain⟨H1,H2⟩:=H
 refine hX.go [i_,i_,c_ [] (fg a1),c_ [] (fg a2)] ?_
 by_cases h0:(cE a1)=0
 ·obtain⟨H1,H2⟩:=H2 h0
  refine hX.go [f_ (bne_eq_false_iff_eq.2 h0),f_ (bne_eq_false_iff_eq.2 h0),f_ (bne_eq_false_iff_eq.2 h0)] ?_
  by_cases h1:(cE a2)=0
  ·obtain⟨H1,H2⟩:=H2 h1
   refine hX.go [f_ (bne_eq_false_iff_eq.2 h1)] ?_
   by_cases h2:a1>a2
   ·obtain rfl:=H1 h2
    exact hX.e [t_ (dt h2),i_,c_ [] (show S 171 [.dZ 322 (.agg [I a1,I a2, .val (bK Env.n1)]), .val (bK Env.n0)] [] (B false) []from Ej _ _),f_ rf,c_ [] (show S 171 [.dZ 322 (.agg [I a1,I a2, .val (bK Env.n1)]), .val (bK Env.n1)] [] (B true) []from Ei _ _),t_ rt,t_ (show((4:Int) !=0)=true from rfl)]
   ·obtain⟨h3,h4,rfl⟩:=H2 h2
    exact hX.e [f_ (df h2),i_,c_ [] (show S 171 [.val .nilIface, .val (bK Env.n0)] [] (B false) []from jM _),f_ rf,c_ [] (show S 171 [.val .nilIface, .val (bK Env.n1)] [] (B false) []from jM _),f_ rf,f_ (show((0:Int) !=0)=false from rfl),q_ h3,i_,c_ [] (show S 191 [I (a2-a1),I 360] [] (RT (kA (a2-a1) 360)) []from py h4 (by decide))]
  ·obtain rfl:=H1 h1
   exact hX.e [t_ (bne_iff_ne.2 h1),i_,c_ [] (show S 171 [.dZ 322 (.agg [I a1,I a2, .val (bK Env.n0)]), .val (bK Env.n0)] [] (B true) []from vT _ _),t_ rt,t_ (show((3:Int) !=0)=true from rfl)]
 ·obtain rfl:=H1 h0
  exact hX.e [t_ (bne_iff_ne.2 h0),t_ (bne_iff_ne.2 h0),t_ (bne_iff_ne.2 h0),t_ rt,i_,c_ [] (show S 171 [.dZ 322 (.agg [I a1,I a2, .val (bK Env.n0)]), .val (bK Env.n0)] [] (B true) []from vT _ _),t_ rt,t_ (show((3:Int) !=0)=true from rfl)]
theorem Jr (a b:Int):ab Tryz.prog GL 147 [I a,I b] [] (RT (r8 a b 360)) []:=
 uG ⟨fun h=>by rw[mH]<;>rw[dv.1 h];decide,fun h=>⟨fun h1=>by rw[mH]<;>rw[dv.2.1 h1];decide,fun h1=>⟨fun h2=>by rw[mH]<;>rw[dv.2.2.1 h h1 h2];decide,fun h2=>by
  have h3:=dv.2.2.2 h h1 h2
  have:=qE h3
  exact⟨by simp only[Ir,aj];omega,by unfold sf;omega,by rw[r8,if_pos h3]⟩⟩⟩⟩
theorem uF {a1 a2:Int} {res:SV} (H:((cE a1)≠0→(SV.af [.agg [I 0,I 0],I 3])=res)∧((cE a1)=0→((cE a2)≠0→(SV.af [.agg [I 0,I 0],I 3])=res)∧((cE a2)=0→(a1>a2→(SV.af [.agg [I 0,I 0],I 4])=res)∧(¬a1>a2→Ir (a2-a1)∧sf (a2-a1)∧RT (kA (a2-a1) 365)=res)))):
  S 148 [I a1,I a2] [] res []:=by
 refine ab.st fun X hX=> ?_
 obtain⟨H1,H2⟩:=H
 refine hX.go [i_,i_,c_ [] (fg a1),c_ [] (fg a2)] ?_
 by_cases h0:(cE a1)=0
 ·obtain⟨H1,H2⟩:=H2 h0
  refine hX.go [f_ (bne_eq_false_iff_eq.2 h0),f_ (bne_eq_false_iff_eq.2 h0),f_ (bne_eq_false_iff_eq.2 h0)] ?_
  by_cases h1:(cE a2)=0
  ·obtain⟨H1,H2⟩:=H2 h1
   refine hX.go [f_ (bne_eq_false_iff_eq.2 h1)] ?_
   by_cases h2:a1>a2
   ·obtain rfl:=H1 h2
    exact hX.e [t_ (dt h2),i_,c_ [] (show S 171 [.dZ 322 (.agg [I a1,I a2, .val (bK Env.n1)]), .val (bK Env.n0)] [] (B false) []from Ej _ _),f_ rf,c_ [] (show S 171 [.dZ 322 (.agg [I a1,I a2, .val (bK Env.n1)]), .val (bK Env.n1)] [] (B true) []from Ei _ _),t_ rt,t_ (show((4:Int) !=0)=true from rfl)]
   ·obtain⟨h3,h4,rfl⟩:=H2 h2
    exact hX.e [f_ (df h2),i_,c_ [] (show S 171 [.val .nilIface, .val (bK Env.n0)] [] (B false) []from jM _),f_ rf,c_ [] (show S 171 [.val .nilIface, .val (bK Env.n1)] [] (B false) []from jM _),f_ rf,f_ (show((0:Int) !=0)=false from rfl),q_ h3,i_,c_ [] (show S 191 [I (a2-a1),I 365] [] (RT (kA (a2-a1) 365)) []from py h4 (by decide))]
  ·obtain rfl:=H1 h1
   exact hX.e [t_ (bne_iff_ne.2 h1),i_,c_ [] (show S 171 [.dZ 322 (.agg [I a1,I a2, .val (bK Env.n0)]), .val (bK Env.n0)] [] (B true) []from vT _ _),t_ rt,t_ (show((3:Int) !=0)=true from rfl)]
 ·obtain rfl:=H1 h0
  exact hX.e [t_ (bne_iff_ne.2 h0),t_ (bne_iff_ne.2 h0),t_ (bne_iff_ne.2 h0),t_ rt,i_,c_ [] (show S 171 [.dZ 322 (.agg [I a1,I a2, .val (bK Env.n0)]), .val (bK Env.n0)] [] (B true) []from vT _ _),t_ rt,t_ (show((3:Int) !=0)=true from rfl)]
theorem Jq (a b:Int):ab Tryz.prog GL 148 [I a,I b] [] (RT (r8 a b 365)) []:=
 uF ⟨fun h=>by rw[mH]<;>rw[dv.1 h];decide,fun h=>⟨fun h1=>by rw[mH]<;>rw[dv.2.1 h1];decide,fun h1=>⟨fun h2=>by rw[mH]<;>rw[dv.2.2.1 h h1 h2];decide,fun h2=>by
  have h3:=dv.2.2.2 h h1 h2
  have:=qE h3
  exact⟨by simp only[Ir,aj];omega,by unfold sf;omega,by rw[r8,if_pos h3]⟩⟩⟩⟩
noncomputable def cp (x1:Int) (x2:Int) (x3:Int) (x4:Int) (x5:Int) (x6:Int) (x7:Int) (x8:Int) (x9:Int) (x10:Int) (x11:Int) (x12:Int) (x13:Int) (x14:Int) (x15:Int) (m9_:Int→Int):SC:=
 ⟨[⟨193,bJ 75 [(0, .ptr 0 0),(1, .ptr 1 0),(2, .ptr 6 0),(4, .ptr 7 0),(8, .mp 9),(32,I x1),(33,I x2)],[.code (aa Tryz.f193 [1,1,1,1,0,1,0,0]), .inLoop (aa Tryz.f193 [1,1,1,1,0,1,0,0]), .inBlock 0, .code (aa Tryz.f193 [1,1,1,1,1])],{}⟩,⟨189,bJ 21 [(6, .ptr 3 0),(17, .fn (.func 193) [] [.ptr 0 0, .ptr 1 0])],[.inRegion (aU Tryz.f189 [1,1,0]) [1,2,3,4,5], .code (aa Tryz.f189 [1,1,1])],{}⟩,⟨149,[none,none,none,none,some (.ptr 2 0),none,some (I x3),some (I x4),some (.fn (.func 193) [] [.ptr 0 0, .ptr 1 0]),none,none,none],[.inRegion (aU Tryz.f149 [1,0]) [3,4,5,6,7], .code (aa Tryz.f149 [1,1])],{}⟩],[some (.box true [I x5]),some (.box true [I x6]),some (.box true [I x7,I x8]),some (.box true [I x9,I x10]),none,none,some (.box true [I x11,I x12]),some (.box true [I x13,I x14,I x15]),none,some (.map true .i64 .i64 m9_ [])]⟩
theorem qA {X:Cx} {a1 a2:Int} {res:SV} (hX:Fi X 149 [] res []) (H:((cE a1)≠0→(SV.af [.agg [I 0,I 0],I 3])=res)∧((cE a1)=0→((cE a2)≠0→(SV.af [.agg [I 0,I 0],I 3])=res)∧((cE a2)=0→(a1>a2→(SV.af [.agg [I 0,I 0],I 4])=res)∧(¬a1>a2→Ir ((cY a2)-(cY a1))∧Ir (((cY a2)-(cY a1))+1)∧Ok X (cp (((cY a2)-(cY a1))+1) 0 a1 a2 a1 a2 0 0 0 0 0 0 (cY a1) (cM a1) (cD a1) (fun a=>0)))))):
  Ok X (entry Tryz.prog 149 [I a1,I a2] []):=by
 obtain⟨H1,H2⟩:=H
 refine hX.go [i_,i_,c_ [] (fg a1),c_ [] (fg a2)] ?_
 by_cases h0:(cE a1)=0
 ·obtain⟨H1,H2⟩:=H2 h0
  refine hX.go [f_ (bne_eq_false_iff_eq.2 h0),f_ (bne_eq_false_iff_eq.2 h0),f_ (bne_eq_false_iff_eq.2 h0)] ?_
  by_cases h1:(cE a2)=0
  ·obtain⟨H1,H2⟩:=H2 h1
   refine hX.go [f_ (bne_eq_false_iff_eq.2 h1)] ?_
   by_cases h2:a1>a2
   ·obtain rfl:=H1 h2
    exact hX.e [t_ (dt h2),i_,c_ [] (show S 171 [.dZ 322 (.agg [I a1,I a2, .val (bK Env.n1)]), .val (bK Env.n0)] [] (B false) []from Ej _ _),f_ rf,c_ [] (show S 171 [.dZ 322 (.agg [I a1,I a2, .val (bK Env.n1)]), .val (bK Env.n1)] [] (B true) []from Ei _ _),t_ rt,t_ (show((4:Int) !=0)=true from rfl)]
   ·obtain⟨h3,h4,k⟩:=H2 h2
    exact hX.h 95 [f_ (df h2),i_,c_ [] (show S 171 [.val .nilIface, .val (bK Env.n0)] [] (B false) []from jM _),f_ rf,c_ [] (show S 171 [.val .nilIface, .val (bK Env.n1)] [] (B false) []from jM _),f_ rf,f_ (show((0:Int) !=0)=false from rfl),i_,c_ [] (fg a1),c_ [] (fg a2),q_ h3,q_ h4] [.ae 0, .ae 1, .ae 2, .ae 3, .ae 1004, .ae 1005, .ae 6, .ae 7, .ae 1008, .ae 9] k
  ·obtain rfl:=H1 h1
   exact hX.e [t_ (bne_iff_ne.2 h1),i_,c_ [] (show S 171 [.dZ 322 (.agg [I a1,I a2, .val (bK Env.n0)]), .val (bK Env.n0)] [] (B true) []from vT _ _),t_ rt,t_ (show((3:Int) !=0)=true from rfl)]
 ·obtain rfl:=H1 h0
  exact hX.e [t_ (bne_iff_ne.2 h0),t_ (bne_iff_ne.2 h0),t_ (bne_iff_ne.2 h0),t_ rt,i_,c_ [] (show S 171 [.dZ 322 (.agg [I a1,I a2, .val (bK Env.n0)]), .val (bK Env.n0)] [] (B true) []from vT _ _),t_ rt,t_ (show((3:Int) !=0)=true from rfl)]
theorem eS {X:Cx} {x1 x2 x3 x4 x5 x6 x7 x8 x9 x10 x11 x12 x13 x14 x15:Int} {m9_:Int→Int} {res:SV} (hX:Fi X 149 [] res []) (H:(x2<x1→Ir (x13+x2)∧ ∃ r5016 r5017:Int,S 194 [I (x13+x2)] [] (.af [I r5016,I r5017]) []∧Ir (r5016+r5017)∧Ir ((aO x6 (r5016+r5017))-(my x5 r5016))∧Ir ((m9_ r5017)+((aO x6 (r5016+r5017))-(my x5 r5016)))∧Ir (x2+1)∧Ok X (cp x1 (x2+1) x3 x4 x5 x6 x7 x8 x9 x10 x11 x12 x13 x14 x15 (fun a=>if a=r5017 then((m9_ r5017)+((aO x6 (r5016+r5017))-(my x5 r5016)))else m9_ a)))∧(¬x2<x1→sf (m9_ 365)∧sf (m9_ 366)∧ ∃ r5016 r5017 r5018:Int,S 195 [.agg [I ((kA (m9_ 365) 365).1),I ((kA (m9_ 365) 365).2.1)], .agg [I ((kA (m9_ 366) 366).1),I ((kA (m9_ 366) 366).2.1)]] [] (.af [.agg [I r5016,I r5017],I r5018]) []∧(SV.af [.agg [I r5016,I r5017],I r5018])=res)):
  Ok X (cp x1 x2 x3 x4 x5 x6 x7 x8 x9 x10 x11 x12 x13 x14 x15 m9_):=by
 obtain⟨H1,H2⟩:=H
 by_cases h0:x2<x1
 ·obtain⟨h1,r5016,r5017,h2,h3,h4,h5,h6,k⟩:=H1 h0
  exact hX.h 49 [t_ (dt h0),q_ h1,c_ [] h2,q_ h3,q_ h4,q_ h5,q_ h6] [.ae 0, .ae 1, .ae 2, .ae 3, .ae 1004, .ae 1005, .ae 6, .ae 7, .ae 1008, .ae 9] k
 ·obtain⟨h1,h2,r5016,r5017,r5018,h3,rfl⟩:=H2 h0
  exact hX.e [f_ (df h0),c_ [] (show S 191 [I (m9_ 365),I 365] [] (RT (kA (m9_ 365) 365)) []from py h1 (by decide)),c_ [] (show S 191 [I (m9_ 366),I 366] [] (RT (kA (m9_ 366) 366)) []from py h2 (by decide)),c_ [] h3]
theorem Fg {X:Cx} {a b:Int} (h:ck a b=0) {x7 x8 x9 x10 x11 x12 x14 x15:Int} (hX:Fi X 149 [] (RT (Bh a b)) []):
  ∀ (m:Nat) (i:Int) (f:Int→Int),(cY b-cY a-i).toNat=m→0≤i→i≤cY b-cY a→f 366=lG (cY a+i) (my a (bY (cY a+i)+1))-lD a→f 365=my a (bY (cY a+i)+1)-a-f 366→
    Ok X (cp (cY b-cY a+1) i a b a b x7 x8 x9 x10 x11 x12 (cY a) x14 x15 f):=by
 have h':=ku.1 h
 have hab:=qE h
 have ha:=gI h'.1
 have hb:=gI h'.2.1
 have hsp:=BB h
 intro m
 induction m with
 |zero=>
  intro i f hm h0 h1 h2 h3
  have hi:cY a+i=cY b:=by omega
  have e2:=fF (cY b) hb.1
  have hl:=xg hb.1 (by omega)
  rw[hi]at h2 h3
  have hmx:a≤my a (bY (cY b)+1)∧bY (cY b)+1≤my a (bY (cY b)+1)∧my a (bY (cY b)+1)≤b:=by unfold my;split<;>omega
  have hmn:aO b (bY (cY b)+1+(if lp (cY b)=true then 366 else 365))=b:=by unfold aO;split<;>split at e2<;>simp_all<;>omega
  have hG:lG (cY b) b=lG (cY b) (my a (bY (cY b)+1))+if lp (cY b)=true then b-my a (bY (cY b)+1)else 0:=by unfold lG;split<;>omega
  have hk:=sq (y:=cY a) (p:=a) ha.1 (by omega) i.toNat (my a (bY (cY b)+1)) (by rw[show cY a+(i.toNat:Int)=cY b by omega];omega) (by omega)
  rw[show cY a+(i.toNat:Int)=cY b by omega]at hk
  have hD:lD b=lG (cY b) b:=rfl
  have hDa:lD a=lG (cY a) a:=rfl
  have hEnd:ab Tryz.prog GL 194 [I (cY a+i)] [] (.af [I (bY (cY b)+1),I (if lp (cY b)=true then 366 else 365)]) []:=by
   grind [HG]
  refine eS hX ⟨fun c=>⟨by simp only[Ir,aj];omega,_,_,hEnd, ?_⟩,fun c=>by omega⟩
  rw[hmn]
  have fin: ∀ g:Int→Int,g 366=lD b-lD a→g 365=b-a-(lD b-lD a)→Ok X (cp (cY b-cY a+1) (i+1) a b a b x7 x8 x9 x10 x11 x12 (cY a) x14 x15 g):=fun g g1 g2=>by
   refine eS hX ⟨fun c=>by omega,fun c=>⟨by unfold sf;omega,by unfold sf;omega, ?_⟩⟩
   have:=Iv (C:=(b-a-(lD b-lD a)).toNat) (M:=365) (c:=(lD b-lD a).toNat) (N:=366) (by decide) (by decide) (by omega) (by omega) (by decide) (by decide)
   rw[show(((lD b-lD a).toNat:Nat):Int)=lD b-lD a by omega,show(((b-a-(lD b-lD a)).toNat:Nat):Int)=b-a-(lD b-lD a)by omega]at this
   rw[g1,g2,DY (n:=lD b-lD a) (d:=366) (by omega) (by decide),DY (n:=b-a-(lD b-lD a)) (d:=365) (by omega) (by decide)]
   refine⟨_,_,_,this, ?_⟩
   unfold Bh q8
   rw[if_pos h]
  cases hl2:lp (cY b)<;>rw[hl2]at hG<;>simp only[Bool.false_eq_true,if_false,if_true]at hG⊢
  ·exact⟨by simp only[Ir,aj];omega,by simp only[Ir,aj];omega,by simp only[Ir,aj];omega,by simp only[Ir,aj];omega,fin _ (by simp;omega) (by simp;omega)⟩
  ·exact⟨by simp only[Ir,aj];omega,by simp only[Ir,aj];omega,by simp only[Ir,aj];omega,by simp only[Ir,aj];omega,fin _ (by simp;omega) (by simp;omega)⟩
 |succ m ih=>
  intro i f hm h0 h1 h2 h3
  have hyb:1≤cY a+i∧cY a+i<cY b:=by omega
  generalize hy:cY a+i=y at*
  have e2:=fF y hyb.1
  have hl:=xg hyb.1 (by omega)
  have hm1:bY (cY a+1)≤bY (y+1):=fH (by omega)
  have hm2:bY (y+1)≤bY (cY b):=fH (by omega)
  have hm3:bY y≤bY (y+1):=fH (by omega)
  have hmx:a≤my a (bY y+1)∧bY y+1≤my a (bY y+1)∧my a (bY y+1)≤bY (y+1)+1:=by unfold my;split<;>omega
  have hmx2:my a (bY (y+1)+1)=bY (y+1)+1:=by unfold my;split<;>omega
  have hmn:aO b (bY y+1+(if lp y=true then 366 else 365))=bY (y+1)+1:=by unfold aO;cases hl3:lp y<;>rw[hl3]at e2<;>simp at e2⊢ <;>split<;>omega
  have hG:lG y (bY (y+1)+1)=lG y (my a (bY y+1))+if lp y=true then bY (y+1)+1-my a (bY y+1)else 0:=by unfold lG;split<;>omega
  have hk:=sq (y:=cY a) (p:=a) ha.1 (by omega) i.toNat (my a (bY y+1)) (by rw[show cY a+(i.toNat:Int)=y by omega];omega) (by omega)
  rw[show cY a+(i.toNat:Int)=y by omega]at hk
  have hDa:lD a=lG (cY a) a:=rfl
  have hE:=Ea hyb.1
  have hEnd:ab Tryz.prog GL 194 [I (cY a+i)] [] (.af [I (bY y+1),I (if lp y=true then 366 else 365)]) []:=by
   grind [HG]
  refine eS hX ⟨fun c=>⟨by simp only[Ir,aj];omega,_,_,hEnd, ?_⟩,fun c=>by omega⟩
  rw[hmn]
  have fin: ∀ g:Int→Int,g 366=lG y (bY (y+1)+1)-lD a→g 365=bY (y+1)+1-a-g 366→Ok X (cp (cY b-cY a+1) (i+1) a b a b x7 x8 x9 x10 x11 x12 (cY a) x14 x15 g):=fun g g1 g2=>by
   grind
  cases hl2:lp y<;>rw[hl2]at hG<;>simp only[Bool.false_eq_true,if_false,if_true]at hG⊢
  ·exact⟨by simp only[Ir,aj];omega,by simp only[Ir,aj];omega,by simp only[Ir,aj];omega,by simp only[Ir,aj];omega,fin _ (by simp;omega) (by simp;omega)⟩
  ·exact⟨by simp only[Ir,aj];omega,by simp only[Ir,aj];omega,by simp only[Ir,aj];omega,by simp only[Ir,aj];omega,fin _ (by simp;omega) (by simp;omega)⟩
theorem Fh (a b:Int):ab Tryz.prog GL 149 [I a,I b] [] (RT (Bh a b)) []:=by
 refine ab.of (by kernel_rfl) rfl trivial rfl (fun X hX=> ?_)
 refine qA hX ⟨fun h=>by rw[si]<;>rw[dv.1 h];decide,fun h=>⟨fun h1=>by rw[si]<;>rw[dv.2.1 h1];decide,fun h1=>⟨fun h2=>by rw[si]<;>rw[dv.2.2.1 h h1 h2];decide,fun h2=> ?_⟩⟩⟩
 have h3:=dv.2.2.2 h h1 h2
 have h':=ku.1 h3
 have ha:=gI h'.1
 have hb:=gI h'.2.1
 have:=AL h'.1 h'.2.1 (by omega)
 refine⟨by simp only[Ir,aj];omega,by simp only[Ir,aj];omega,Fg h3 hX _ 0 _ rfl (by omega) (by omega) ?_ ?_⟩
 all_goals grind [lD]
end Go.Proofs.YtelidogcomffkaaGreatDoor
set_option linter.unusedVariables false
set_option linter.unusedSimpArgs false
set_option linter.unusedSectionVars false
namespace Go.Proofs.YtelidogcomffkaaGreatDoor
open Go Go.Sx
variable [Env]
def ov (a b lo hi:Int):Int:=if 0<((if hi<b then hi else b)-(if a<lo then lo else a))then((if hi<b then hi else b)-(if a<lo then lo else a))else 0
def term (a b:Int) (f:Nat) (g:Nat→Int) (k:Nat):Rat:=if g k<g (k+1)then mkRat (ov a b (g k) (g (k+1))) (f*(g (k+1)-g k).toNat)else 0
def cA (a b:Int) (f:Nat) (g:Nat→Int):Nat→Rat
 |0=>0
 |k+1=>cA a b f g k+term a b f g k
theorem DN (a b lo hi:Int):0≤ov a b lo hi:=by unfold ov;split<;>omega
theorem DO {a b lo hi:Int} (h:lo≤hi):ov a b lo hi≤hi-lo:=by unfold ov;split<;>(try split at*)<;>(try split at*)<;>omega
theorem Bq {n:Nat} {g:Nat→Int} (hs: ∀ i,i<n-1→g i≤g (i+1)) {i j:Nat} (h:i≤j) (hj:j≤n-1):g i≤g j:=by
 induction j with
 |zero=>have:i=0:=by omega
        subst this;omega
 |succ j ih=>
  grind
theorem tI {n:Nat} {g:Nat→Int} (hs: ∀ i,i<n-1→g i≤g (i+1)) (hd: ∀ i,i<n→1≤g i∧g i≤3652059) (a:Int):
  ∃ L:Nat,1≤L∧L≤3652058∧ ∀ k,k<n-1→g k<a→a<g (k+1)→(g (k+1)-g k).toNat=L:=by
 by_cases h: ∃ k,k<n-1∧g k<a∧a<g (k+1)
 ·obtain⟨k,h1,h2,h3⟩:=h
  have d1:=hd k (by omega)
  have d2:=hd (k+1) (by omega)
  refine⟨(g (k+1)-g k).toNat,by omega,by omega,fun j h4 h5 h6=> ?_⟩
  rcases Nat.lt_trichotomy j k with hj|hj|hj
  ·have:=Bq hs (i:=j+1) (j:=k) (by omega) (by omega);omega
  ·rw[hj]
  ·have:=Bq hs (i:=k+1) (j:=j) (by omega) (by omega);omega
 ·exact⟨1,by omega,by omega,fun k h1 h2 h3=>absurd ⟨k,h1,h2,h3⟩ h⟩
theorem one_den {n:Nat} {g:Nat→Int} {f:Nat} (hf:1≤f) (hf2:f≤12) (hs: ∀ i,i<n-1→g i≤g (i+1)) (hd: ∀ i,i<n→1≤g i∧g i≤3652059) (a b:Int):
  ∃ M:Nat,M≠0∧M≤160050331624368∧ ∀ k,k<n-1→ ∃ c:Nat,c≤M∧term a b f g k=mkRat (c:Int) M:=by
 obtain⟨La,a1,a2,a3⟩:=tI hs hd a
 obtain⟨Lb,b1,b2,b3⟩:=tI hs hd b
 have hM:f*La*Lb≤12*3652058*3652058:=Nat.mul_le_mul (Nat.mul_le_mul hf2 a2) b2
 have hM0:f*La*Lb≠0:=Nat.mul_ne_zero (Nat.mul_ne_zero (by omega) (by omega)) (by omega)
 refine⟨f*La*Lb,hM0,by omega,fun k hk=> ?_⟩
 unfold term
 by_cases hlt:g k<g (k+1)
 ·rw[if_pos hlt]
  obtain⟨o,ho⟩: ∃ o:Nat,ov a b (g k) (g (k+1))=(o:Int):=Int.eq_ofNat_of_zero_le (DN _ _ _ _)
  have hle:=DO (a:=a) (b:=b) (Int.le_of_lt hlt)
  obtain⟨L,hL⟩: ∃ L:Nat,(g (k+1)-g k).toNat=L:=⟨_,rfl⟩
  have hol:o≤L:=by omega
  have hL0:L≠0:=by omega
  rw[ho,hL]
  by_cases ho0:o=0
  ·subst ho0
   exact⟨0,Nat.zero_le _,by rw[Int.natCast_zero,Rat.zero_mkRat,Rat.zero_mkRat]⟩
  by_cases hina:g k<a∧a<g (k+1)
  ·have e:=a3 k hk hina.1 hina.2
   rw[hL]at e
   subst e
   refine⟨o*Lb, ?_, ?_⟩
   ·exact Nat.mul_le_mul_right _ (Nat.le_trans hol (Nat.le_mul_of_pos_left _ (by omega)))
   ·rw[Int.natCast_mul,Rat.mkRat_mul_right (by omega)]
  ·by_cases hinb:g k<b∧b<g (k+1)
   ·have e:=b3 k hk hinb.1 hinb.2
    rw[hL]at e
    subst e
    refine⟨o*La, ?_, ?_⟩
    ·rw[Nat.mul_right_comm]
     exact Nat.mul_le_mul_right _ (Nat.le_trans hol (Nat.le_mul_of_pos_left _ (by omega)))
    ·rw[Nat.mul_right_comm f La L,Int.natCast_mul,Rat.mkRat_mul_right (by omega)]
   ·have hoL:o=L:=by
     unfold ov at ho
     omega
    refine⟨La*Lb, ?_, ?_⟩
    ·rw[Nat.mul_assoc];exact Nat.le_mul_of_pos_left _ (by omega)
    ·rw[hoL,Rat.mkRat_eq_iff (Nat.mul_ne_zero (by omega) hL0) hM0]
     grind
 ·rw[if_neg hlt]
  exact⟨0,Nat.zero_le _,by rw[Int.natCast_zero,Rat.zero_mkRat]⟩
theorem yg {n:Nat} {g:Nat→Int} {f M:Nat} {a b:Int} (hM:M≠0) (h: ∀ k,k<n-1→ ∃ c:Nat,c≤M∧term a b f g k=mkRat (c:Int) M):
  ∀ k,k≤n-1→ ∃ C:Nat,C≤k*M∧cA a b f g k=mkRat (C:Int) M
 |0,_=>⟨0,by omega,by rw[Int.natCast_zero,Rat.zero_mkRat];rfl⟩
 |k+1,hk=>by
  obtain⟨C,h1,h2⟩:=yg hM h k (by omega)
  obtain⟨c,h3,h4⟩:=h k (by omega)
  refine⟨C+c,by rw[Nat.add_mul];omega, ?_⟩
  show cA a b f g k+term a b f g k=_
  rw[h2,h4,gC C c hM]
theorem yf {n:Nat} {g:Nat→Int} {f:Nat} (hf:1≤f) (hf2:f≤12) (hn:n≤1204) (hs: ∀ i,i<n-1→g i≤g (i+1)) (hd: ∀ i,i<n→1≤g i∧g i≤3652059) (a b:Int) {k:Nat} (hk:k<n-1):
  ∃ M C c:Nat,M≠0∧C+c≤4611686018427387904∧M≤4611686018427387904∧cA a b f g k=mkRat (C:Int) M∧term a b f g k=mkRat (c:Int) M∧cA a b f g (k+1)=mkRat ((C+c:Nat):Int) M:=by
 obtain⟨M,h1,h2,h3⟩:=one_den hf hf2 hs hd a b
 obtain⟨C,h4,h5⟩:=yg h1 h3 k (by omega)
 obtain⟨c,h6,h7⟩:=h3 k hk
 have hkM:k*M≤1203*160050331624368:=Nat.mul_le_mul (by omega) h2
 have e:cA a b f g (k+1)=mkRat ((C+c:Nat):Int) M:=by
  show cA a b f g k+term a b f g k=_
  rw[h5,h7,gC C c h1]
 grind
theorem zA {n:Nat} {g:Nat→Int} {f:Nat} (hf:1≤f) (hf2:f≤12) (hn:n≤1204) (hs: ∀ i,i<n-1→g i≤g (i+1)) (hd: ∀ i,i<n→1≤g i∧g i≤3652059) (a b:Int) {k:Nat} (hk:k<n-1):
  ab Tryz.prog GL 195 [QV (cA a b f g k),QV (term a b f g k)] [] (RQ (cA a b f g (k+1))) []:=by
 obtain⟨M,C,c,h1,h2,h3,h4,h5,e⟩:=yf hf hf2 hn hs hd a b hk
 rw[e,h4,h5]
 exact Iu h1 h2 h3
theorem zz {n:Nat} {g:Nat→Int} {f:Nat} (hf:1≤f) (hf2:f≤12) (hn:n≤1204) (hs: ∀ i,i<n-1→g i≤g (i+1)) (hd: ∀ i,i<n→1≤g i∧g i≤3652059) (a b:Int) {k:Nat} (hk:k<n-1):
  ab Tryz.prog GL 119 [QV (cA a b f g k),QV (term a b f g k)] [] (RQ (cA a b f g (k+1))) []:=by
 obtain⟨M,C,c,h1,h2,h3,h4,h5,e⟩:=yf hf hf2 hn hs hd a b hk
 rw[e,h4,h5]
 exact Db h1 h2 h3
end Go.Proofs.YtelidogcomffkaaGreatDoor
set_option linter.unusedVariables false
set_option linter.unusedSimpArgs false
set_option linter.unusedSectionVars false
set_option maxRecDepth 100000
namespace Go.Proofs.YtelidogcomffkaaGreatDoor
open Go Go.Sx
variable [Env]
def ky (a b:Int) (n:Nat) (g:Nat→Int) (f:Int):Int×Int×Int:=
 if ai a=false∨ai b=false then(0,0,3)else if a>b then(0,0,4)else if iR n g f=false∨a<g 0∨b>g (n-1)then(0,0,5)
 else((cA a b f.toNat g (n-1)).num,((cA a b f.toNat g (n-1)).den:Int),0)
theorem qQ {n:Nat} {g:Nat→Int} {f:Int} (h:iR n g f=true):2≤n∧n≤1204∧1≤f∧f≤12∧(∀ i,i<n→1≤g i∧g i≤3652059)∧(∀ i,i<n-1→g i≤g (i+1))∧g 0<g (n-1):=by
 unfold iR at h
 rw[decide_eq_true_eq]at h
 obtain⟨h1,h2,h3,h4,h5,h6,h7⟩:=h
 refine⟨h1,h2,h3,h4,fun i hi=> ?_,h6,h7⟩
 have:=h5 i hi
 unfold ai at this
 simp_all
theorem kZ {a1 a2:Int} {n3:Nat} {g4:Nat→Int} {a5:Int} {r6 r7:Bool} (h0:S 37 [I a1] [] (B r6) []) (h1:S 37 [I a2] [] (B r7) []) (h2:r6=false):
  S 87 [I a1,I a2, .sl 0 n3,I a5] [ri n3 g4] (.af [.agg [I 0,I 0],I 3]) []:=
 ab.path 34 [.call [] (B r6) [], .call [] (B r7) [],tb,tb,tb,tb] [] 2 (by kernel_rfl) rfl (by exact⟨fun _=>rfl,trivial⟩) (ca h0 (ca h1 (ca (nt h2) (ca (nt h2) (ca (nt h2) (ca rt na))))))
theorem kY {a1 a2:Int} {n3:Nat} {g4:Nat→Int} {a5:Int} {r6 r7:Bool} (h0:S 37 [I a1] [] (B r6) []) (h1:S 37 [I a2] [] (B r7) []) (h2:r6=true) (h3:r7=false):
  S 87 [I a1,I a2, .sl 0 n3,I a5] [ri n3 g4] (.af [.agg [I 0,I 0],I 3]) []:=
 ab.path 34 [.call [] (B r6) [], .call [] (B r7) [],fb,fb,fb,tb] [] 2 (by kernel_rfl) rfl (by exact⟨fun _=>rfl,trivial⟩) (ca h0 (ca h1 (ca (nf h2) (ca (nf h2) (ca (nf h2) (ca (nt h3) na))))))
theorem kW {a1 a2:Int} {n3:Nat} {g4:Nat→Int} {a5:Int} {r6 r7:Bool} (h0:S 37 [I a1] [] (B r6) []) (h1:S 37 [I a2] [] (B r7) []) (h2:r6=true) (h3:r7=true) (h4:a1>a2):
  S 87 [I a1,I a2, .sl 0 n3,I a5] [ri n3 g4] (.af [.agg [I 0,I 0],I 4]) []:=
 ab.path 43 [.call [] (B r6) [], .call [] (B r7) [],fb,fb,fb,fb,tb] [] 2 (by kernel_rfl) rfl (by exact⟨fun _=>rfl,trivial⟩) (ca h0 (ca h1 (ca (nf h2) (ca (nf h2) (ca (nf h2) (ca (nf h3) (ca (dt h4) na)))))))
theorem kV {a1 a2:Int} {n3:Nat} {g4:Nat→Int} {a5:Int} {r6 r7 r8:Bool} (h0:S 37 [I a1] [] (B r6) []) (h1:S 37 [I a2] [] (B r7) []) (h2:r6=true) (h3:r7=true) (h4: ¬a1>a2) (h5:S 120 [.sl 0 n3,I a5] [ri n3 g4] (B r8) []) (h6:r8=false):
  S 87 [I a1,I a2, .sl 0 n3,I a5] [ri n3 g4] (.af [.agg [I 0,I 0],I 5]) []:=
 ab.path 75 [.call [] (B r6) [], .call [] (B r7) [],fb,fb,fb,fb,fb, .call [0] (B r8) [],tb,tb,tb,tb,tb,tb,tb,tb,tb,tb,tb,tb,tb,tb,tb,tb] [] 2 (by kernel_rfl) rfl (by exact⟨fun _=>rfl,trivial⟩) (ca h0 (ca h1 (ca (nf h2) (ca (nf h2) (ca (nf h2) (ca (nf h3) (ca (df h4) (ca h5 (ca (nt h6) (ca (nt h6) (ca (nt h6) (ca (nt h6) (ca (nt h6) (ca (nt h6) (ca rt (ca rt (ca rt (ca rt (ca rt (ca rt (ca rt (ca rt (ca rt (ca rt na))))))))))))))))))))))))
theorem kU {a1 a2:Int} {n3:Nat} {g4:Nat→Int} {a5:Int} {r6 r7 r8:Bool} (h0:S 37 [I a1] [] (B r6) []) (h1:S 37 [I a2] [] (B r7) []) (h2:r6=true) (h3:r7=true) (h4: ¬a1>a2) (h5:S 120 [.sl 0 n3,I a5] [ri n3 g4] (B r8) []) (h6:r8=true) (h7:(0:Int)≤0∧0<((n3:Nat):Int)) (h8:a1<(g4 0)):
  S 87 [I a1,I a2, .sl 0 n3,I a5] [ri n3 g4] (.af [.agg [I 0,I 0],I 5]) []:=
 ab.path 75 [.call [] (B r6) [], .call [] (B r7) [],fb,fb,fb,fb,fb, .call [0] (B r8) [],fb,fb,fb,fb,fb,fb,tb,tb,tb,tb,tb,tb,tb,tb,tb,tb] [] 2 (by kernel_rfl) rfl (by exact⟨fun _=>rfl,trivial⟩) (ca h0 (ca h1 (ca (nf h2) (ca (nf h2) (ca (nf h2) (ca (nf h3) (ca (df h4) (ca h5 (ca (nf h6) (ca (nf h6) (ca (nf h6) (ca h7 (ca (re n3) (ca (nf h6) (ca h7 (ca (nf h6) (ca (nf h6) (ca (dt h8) (ca (dt h8) (ca (dt h8) (ca (dt h8) (ca (dt h8) (ca (dt h8) (ca (dt h8) (ca (dt h8) (ca (dt h8) (ca rt na)))))))))))))))))))))))))))
theorem kT {a1 a2:Int} {n3:Nat} {g4:Nat→Int} {a5:Int} {r6 r7 r8:Bool} (h0:S 37 [I a1] [] (B r6) []) (h1:S 37 [I a2] [] (B r7) []) (h2:r6=true) (h3:r7=true) (h4: ¬a1>a2) (h5:S 120 [.sl 0 n3,I a5] [ri n3 g4] (B r8) []) (h6:r8=true) (h7:(0:Int)≤0∧0<((n3:Nat):Int)) (h8: ¬a1<(g4 0)) (h9:aj .i64 (((n3:Nat):Int)-1)) (h10:(0:Int)≤(((n3:Nat):Int)-1)∧(((n3:Nat):Int)-1)<((n3:Nat):Int)) (h11:a2>(g4 ((((n3:Nat):Int)-1).toNat))):
  S 87 [I a1,I a2, .sl 0 n3,I a5] [ri n3 g4] (.af [.agg [I 0,I 0],I 5]) []:=
 ab.path 75 [.call [] (B r6) [], .call [] (B r7) [],fb,fb,fb,fb,fb, .call [0] (B r8) [],fb,fb,fb,fb,fb,fb,fb,fb,fb,fb,fb,fb,fb,fb,fb,tb] [] 2 (by kernel_rfl) rfl (by exact⟨fun _=>rfl,trivial⟩) (ca h0 (ca h1 (ca (nf h2) (ca (nf h2) (ca (nf h2) (ca (nf h3) (ca (df h4) (ca h5 (ca (nf h6) (ca (nf h6) (ca (nf h6) (ca h7 (ca (re n3) (ca (nf h6) (ca h7 (ca (nf h6) (ca (nf h6) (ca (df h8) (ca (df h8) (ca (df h8) (ca (df h8) (ca (df h8) (ca h9 (ca (df h8) (ca h10 (ca (re n3) (ca (df h8) (ca h10 (ca (df h8) (ca (df h8) (ca (dt h11) na)))))))))))))))))))))))))))))))
noncomputable def ao (n3:Nat) (g4:Nat→Int) (x1:Int) (x2:Int) (x3:Int) (x4:Int) (x5:Int) (x6:Int) (x7:Int) (x8:Int):SC:=
 ⟨[⟨87,bJ 113 [(0,I x1),(1,I x2),(2, .sl 0 n3),(3,I x3),(8, .ptr 1 0),(13, .ptr 2 0),(14,I x4)],[.code (aa Tryz.f87 [1,1,1,1,1,1,1,1,0,1,0,0]), .inLoop (aa Tryz.f87 [1,1,1,1,1,1,1,1,0,1,0,0]), .inBlock 0, .code (aa Tryz.f87 [1,1,1,1,1,1,1,1,1])],{}⟩],[ri n3 g4,some (.box true [I x5,I x6]),some (.box true [I x7,I x8])]⟩
theorem kS {X:Cx} {res:SV} {new:List (Option Vw)} {a1 a2:Int} {n3:Nat} {g4:Nat→Int} {a5:Int} {r6 r7 r8:Bool} (hX:Fi X 87 [ri n3 g4] res new) (h0:S 37 [I a1] [] (B r6) []) (h1:S 37 [I a2] [] (B r7) []) (h2:r6=true) (h3:r7=true) (h4: ¬a1>a2) (h5:S 120 [.sl 0 n3,I a5] [ri n3 g4] (B r8) []) (h6:r8=true) (h7:(0:Int)≤0∧0<((n3:Nat):Int)) (h8: ¬a1<(g4 0)) (h9:aj .i64 (((n3:Nat):Int)-1)) (h10:(0:Int)≤(((n3:Nat):Int)-1)∧(((n3:Nat):Int)-1)<((n3:Nat):Int)) (h11: ¬a2>(g4 ((((n3:Nat):Int)-1).toNat))) (k:Ok X (ao n3 g4 a1 a2 a5 1 0 0 0 1)):
  Ok X (entry Tryz.prog 87 [I a1,I a2, .sl 0 n3,I a5] [ri n3 g4]):=
 Ok.bg 83 [.call [] (B r6) [], .call [] (B r7) [],fb,fb,fb,fb,fb, .call [0] (B r8) [],fb,fb,fb,fb,fb,fb,fb,fb,fb,fb,fb,fb,fb,fb,fb,fb] [cN 113 [0,1,2,3,8,13,14]] [.ae 0, .ae 1, .ae 2] 1 hX.P hX.gl hX.n0 (by kernel_rfl) (by kernel_rfl) (by exact⟨fun _=>rfl,rfl,rfl,trivial⟩) (ca h0 (ca h1 (ca (nf h2) (ca (nf h2) (ca (nf h2) (ca (nf h3) (ca (df h4) (ca h5 (ca (nf h6) (ca (nf h6) (ca (nf h6) (ca h7 (ca (re n3) (ca (nf h6) (ca h7 (ca (nf h6) (ca (nf h6) (ca (df h8) (ca (df h8) (ca (df h8) (ca (df h8) (ca (df h8) (ca h9 (ca (df h8) (ca h10 (ca (re n3) (ca (df h8) (ca h10 (ca (df h8) (ca (df h8) (ca (df h11) na))))))))))))))))))))))))))))))) k
theorem kR {X:Cx} {res:SV} {new:List (Option Vw)} {n3:Nat} {g4:Nat→Int} {x1 x2 x3 x4 x5 x6 x7 x8:Int} (hX:Fi X 87 [ri n3 g4] res new) (h0:x4<((n3:Nat):Int)) (h1:aj .i64 (x4-1)) (h2:(0:Int)≤(x4-1)∧(x4-1)<((n3:Nat):Int)) (h3:(0:Int)≤x4∧x4<((n3:Nat):Int)) (h4:(g4 ((x4-1).toNat))=(g4 x4.toNat)) (h5:aj .i64 (x4+1)) (k:Ok X (ao n3 g4 x1 x2 x3 (x4+1) x5 x6 x7 x8)):
  Ok X (ao n3 g4 x1 x2 x3 x4 x5 x6 x7 x8):=
 Ok.bg 44 [tb,tb] [cN 113 [0,1,2,3,8,13,14]] [.ae 0, .ae 1, .ae 2] 1 hX.P hX.gl hX.n0 (by kernel_rfl) (by kernel_rfl) (by exact⟨fun _=>rfl,rfl,rfl,trivial⟩) (ca (dt h0) (ca h1 (ca h2 (ca (re n3) (ca h2 (ca h3 (ca (re n3) (ca h3 (ca (beq_iff_eq.2 h4) (ca h5 na)))))))))) k
theorem kQ {X:Cx} {res:SV} {new:List (Option Vw)} {n3:Nat} {g4:Nat→Int} {x1 x2 x3 x4 x5 x6 x7 x8 r5009 r5010 r5011 r5012 r5013 r5014:Int} (hX:Fi X 87 [ri n3 g4] res new) (h0:x4<((n3:Nat):Int)) (h1:aj .i64 (x4-1)) (h2:(0:Int)≤(x4-1)∧(x4-1)<((n3:Nat):Int)) (h3:(0:Int)≤x4∧x4<((n3:Nat):Int)) (h4:(g4 ((x4-1).toNat))≠(g4 x4.toNat)) (h5:(g4 ((x4-1).toNat))>x1) (h6:(g4 x4.toNat)<x2) (h7:(g4 x4.toNat)>(g4 ((x4-1).toNat))) (h8:aj .i64 ((g4 x4.toNat)-(g4 ((x4-1).toNat)))) (h9:aj .i64 (x3*((g4 x4.toNat)-(g4 ((x4-1).toNat))))) (h10:S 117 [I ((g4 x4.toNat)-(g4 ((x4-1).toNat))),I (x3*((g4 x4.toNat)-(g4 ((x4-1).toNat))))] [] (.af [.agg [I r5009,I r5010],I r5011]) []) (h11:S 119 [.agg [I x7,I x8], .agg [I r5009,I r5010]] [] (.af [.agg [I r5012,I r5013],I r5014]) []) (h12:aj .i64 (x4+1)) (k:Ok X (ao n3 g4 x1 x2 x3 (x4+1) x5 x6 r5012 r5013)):
  Ok X (ao n3 g4 x1 x2 x3 x4 x5 x6 x7 x8):=
 Ok.bg 120 [tb,fb,tb,tb,tb, .call [] (.af [.agg [I r5009,I r5010],I r5011]) [], .call [] (.af [.agg [I r5012,I r5013],I r5014]) []] [cN 113 [0,1,2,3,8,13,14]] [.ae 0, .ae 1, .ae 2] 1 hX.P hX.gl hX.n0 (by kernel_rfl) (by kernel_rfl) (by exact⟨fun _=>rfl,rfl,rfl,trivial⟩) (ca (dt h0) (ca h1 (ca h2 (ca (re n3) (ca h2 (ca h3 (ca (re n3) (ca h3 (ca (beq_eq_false_iff_ne.2 h4) (ca (dt h5) (ca (dt h6) (ca (dt h7) (ca h8 (ca h8 (ca h9 (ca h10 (ca h11 (ca h12 na)))))))))))))))))) k
theorem jX {X:Cx} {res:SV} {new:List (Option Vw)} {n3:Nat} {g4:Nat→Int} {x1 x2 x3 x4 x5 x6 x7 x8 r5009 r5010 r5011 r5012 r5013 r5014:Int} (hX:Fi X 87 [ri n3 g4] res new) (h0:x4<((n3:Nat):Int)) (h1:aj .i64 (x4-1)) (h2:(0:Int)≤(x4-1)∧(x4-1)<((n3:Nat):Int)) (h3:(0:Int)≤x4∧x4<((n3:Nat):Int)) (h4:(g4 ((x4-1).toNat))≠(g4 x4.toNat)) (h5:(g4 ((x4-1).toNat))>x1) (h6: ¬(g4 x4.toNat)<x2) (h7:x2>(g4 ((x4-1).toNat))) (h8:aj .i64 (x2-(g4 ((x4-1).toNat)))) (h9:aj .i64 ((g4 x4.toNat)-(g4 ((x4-1).toNat)))) (h10:aj .i64 (x3*((g4 x4.toNat)-(g4 ((x4-1).toNat))))) (h11:S 117 [I (x2-(g4 ((x4-1).toNat))),I (x3*((g4 x4.toNat)-(g4 ((x4-1).toNat))))] [] (.af [.agg [I r5009,I r5010],I r5011]) []) (h12:S 119 [.agg [I x7,I x8], .agg [I r5009,I r5010]] [] (.af [.agg [I r5012,I r5013],I r5014]) []) (h13:aj .i64 (x4+1)) (k:Ok X (ao n3 g4 x1 x2 x3 (x4+1) x5 x6 r5012 r5013)):
  Ok X (ao n3 g4 x1 x2 x3 x4 x5 x6 x7 x8):=
 Ok.bg 117 [tb,fb,tb,fb,tb, .call [] (.af [.agg [I r5009,I r5010],I r5011]) [], .call [] (.af [.agg [I r5012,I r5013],I r5014]) []] [cN 113 [0,1,2,3,8,13,14]] [.ae 0, .ae 1, .ae 2] 1 hX.P hX.gl hX.n0 (by kernel_rfl) (by kernel_rfl) (by exact⟨fun _=>rfl,rfl,rfl,trivial⟩) (ca (dt h0) (ca h1 (ca h2 (ca (re n3) (ca h2 (ca h3 (ca (re n3) (ca h3 (ca (beq_eq_false_iff_ne.2 h4) (ca (dt h5) (ca (df h6) (ca (dt h7) (ca h8 (ca h9 (ca h10 (ca h11 (ca h12 (ca h13 na)))))))))))))))))) k
theorem jW {X:Cx} {res:SV} {new:List (Option Vw)} {n3:Nat} {g4:Nat→Int} {x1 x2 x3 x4 x5 x6 x7 x8:Int} (hX:Fi X 87 [ri n3 g4] res new) (h0:x4<((n3:Nat):Int)) (h1:aj .i64 (x4-1)) (h2:(0:Int)≤(x4-1)∧(x4-1)<((n3:Nat):Int)) (h3:(0:Int)≤x4∧x4<((n3:Nat):Int)) (h4:(g4 ((x4-1).toNat))≠(g4 x4.toNat)) (h5:(g4 ((x4-1).toNat))>x1) (h6: ¬(g4 x4.toNat)<x2) (h7: ¬x2>(g4 ((x4-1).toNat))) (h8:aj .i64 (x4+1)) (k:Ok X (ao n3 g4 x1 x2 x3 (x4+1) x5 x6 x7 x8)):
  Ok X (ao n3 g4 x1 x2 x3 x4 x5 x6 x7 x8):=
 Ok.bg 84 [tb,fb,tb,fb,fb] [cN 113 [0,1,2,3,8,13,14]] [.ae 0, .ae 1, .ae 2] 1 hX.P hX.gl hX.n0 (by kernel_rfl) (by kernel_rfl) (by exact⟨fun _=>rfl,rfl,rfl,trivial⟩) (ca (dt h0) (ca h1 (ca h2 (ca (re n3) (ca h2 (ca h3 (ca (re n3) (ca h3 (ca (beq_eq_false_iff_ne.2 h4) (ca (dt h5) (ca (df h6) (ca (df h7) (ca h8 na))))))))))))) k
theorem jV {X:Cx} {res:SV} {new:List (Option Vw)} {n3:Nat} {g4:Nat→Int} {x1 x2 x3 x4 x5 x6 x7 x8 r5009 r5010 r5011 r5012 r5013 r5014:Int} (hX:Fi X 87 [ri n3 g4] res new) (h0:x4<((n3:Nat):Int)) (h1:aj .i64 (x4-1)) (h2:(0:Int)≤(x4-1)∧(x4-1)<((n3:Nat):Int)) (h3:(0:Int)≤x4∧x4<((n3:Nat):Int)) (h4:(g4 ((x4-1).toNat))≠(g4 x4.toNat)) (h5: ¬(g4 ((x4-1).toNat))>x1) (h6:(g4 x4.toNat)<x2) (h7:(g4 x4.toNat)>x1) (h8:aj .i64 ((g4 x4.toNat)-x1)) (h9:aj .i64 ((g4 x4.toNat)-(g4 ((x4-1).toNat)))) (h10:aj .i64 (x3*((g4 x4.toNat)-(g4 ((x4-1).toNat))))) (h11:S 117 [I ((g4 x4.toNat)-x1),I (x3*((g4 x4.toNat)-(g4 ((x4-1).toNat))))] [] (.af [.agg [I r5009,I r5010],I r5011]) []) (h12:S 119 [.agg [I x7,I x8], .agg [I r5009,I r5010]] [] (.af [.agg [I r5012,I r5013],I r5014]) []) (h13:aj .i64 (x4+1)) (k:Ok X (ao n3 g4 x1 x2 x3 (x4+1) x5 x6 r5012 r5013)):
  Ok X (ao n3 g4 x1 x2 x3 x4 x5 x6 x7 x8):=
 Ok.bg 117 [tb,fb,fb,tb,tb, .call [] (.af [.agg [I r5009,I r5010],I r5011]) [], .call [] (.af [.agg [I r5012,I r5013],I r5014]) []] [cN 113 [0,1,2,3,8,13,14]] [.ae 0, .ae 1, .ae 2] 1 hX.P hX.gl hX.n0 (by kernel_rfl) (by kernel_rfl) (by exact⟨fun _=>rfl,rfl,rfl,trivial⟩) (ca (dt h0) (ca h1 (ca h2 (ca (re n3) (ca h2 (ca h3 (ca (re n3) (ca h3 (ca (beq_eq_false_iff_ne.2 h4) (ca (df h5) (ca (dt h6) (ca (dt h7) (ca h8 (ca h9 (ca h10 (ca h11 (ca h12 (ca h13 na)))))))))))))))))) k
theorem jU {X:Cx} {res:SV} {new:List (Option Vw)} {n3:Nat} {g4:Nat→Int} {x1 x2 x3 x4 x5 x6 x7 x8:Int} (hX:Fi X 87 [ri n3 g4] res new) (h0:x4<((n3:Nat):Int)) (h1:aj .i64 (x4-1)) (h2:(0:Int)≤(x4-1)∧(x4-1)<((n3:Nat):Int)) (h3:(0:Int)≤x4∧x4<((n3:Nat):Int)) (h4:(g4 ((x4-1).toNat))≠(g4 x4.toNat)) (h5: ¬(g4 ((x4-1).toNat))>x1) (h6:(g4 x4.toNat)<x2) (h7: ¬(g4 x4.toNat)>x1) (h8:aj .i64 (x4+1)) (k:Ok X (ao n3 g4 x1 x2 x3 (x4+1) x5 x6 x7 x8)):
  Ok X (ao n3 g4 x1 x2 x3 x4 x5 x6 x7 x8):=
 Ok.bg 84 [tb,fb,fb,tb,fb] [cN 113 [0,1,2,3,8,13,14]] [.ae 0, .ae 1, .ae 2] 1 hX.P hX.gl hX.n0 (by kernel_rfl) (by kernel_rfl) (by exact⟨fun _=>rfl,rfl,rfl,trivial⟩) (ca (dt h0) (ca h1 (ca h2 (ca (re n3) (ca h2 (ca h3 (ca (re n3) (ca h3 (ca (beq_eq_false_iff_ne.2 h4) (ca (df h5) (ca (dt h6) (ca (df h7) (ca h8 na))))))))))))) k
theorem jT {X:Cx} {res:SV} {new:List (Option Vw)} {n3:Nat} {g4:Nat→Int} {x1 x2 x3 x4 x5 x6 x7 x8 r5009 r5010 r5011 r5012 r5013 r5014:Int} (hX:Fi X 87 [ri n3 g4] res new) (h0:x4<((n3:Nat):Int)) (h1:aj .i64 (x4-1)) (h2:(0:Int)≤(x4-1)∧(x4-1)<((n3:Nat):Int)) (h3:(0:Int)≤x4∧x4<((n3:Nat):Int)) (h4:(g4 ((x4-1).toNat))≠(g4 x4.toNat)) (h5: ¬(g4 ((x4-1).toNat))>x1) (h6: ¬(g4 x4.toNat)<x2) (h7:x2>x1) (h8:aj .i64 (x2-x1)) (h9:aj .i64 ((g4 x4.toNat)-(g4 ((x4-1).toNat)))) (h10:aj .i64 (x3*((g4 x4.toNat)-(g4 ((x4-1).toNat))))) (h11:S 117 [I (x2-x1),I (x3*((g4 x4.toNat)-(g4 ((x4-1).toNat))))] [] (.af [.agg [I r5009,I r5010],I r5011]) []) (h12:S 119 [.agg [I x7,I x8], .agg [I r5009,I r5010]] [] (.af [.agg [I r5012,I r5013],I r5014]) []) (h13:aj .i64 (x4+1)) (k:Ok X (ao n3 g4 x1 x2 x3 (x4+1) x5 x6 r5012 r5013)):
  Ok X (ao n3 g4 x1 x2 x3 x4 x5 x6 x7 x8):=
 Ok.bg 114 [tb,fb,fb,fb,tb, .call [] (.af [.agg [I r5009,I r5010],I r5011]) [], .call [] (.af [.agg [I r5012,I r5013],I r5014]) []] [cN 113 [0,1,2,3,8,13,14]] [.ae 0, .ae 1, .ae 2] 1 hX.P hX.gl hX.n0 (by kernel_rfl) (by kernel_rfl) (by exact⟨fun _=>rfl,rfl,rfl,trivial⟩) (ca (dt h0) (ca h1 (ca h2 (ca (re n3) (ca h2 (ca h3 (ca (re n3) (ca h3 (ca (beq_eq_false_iff_ne.2 h4) (ca (df h5) (ca (df h6) (ca (dt h7) (ca h8 (ca h9 (ca h10 (ca h11 (ca h12 (ca h13 na)))))))))))))))))) k
theorem jS {X:Cx} {res:SV} {new:List (Option Vw)} {n3:Nat} {g4:Nat→Int} {x1 x2 x3 x4 x5 x6 x7 x8:Int} (hX:Fi X 87 [ri n3 g4] res new) (h0:x4<((n3:Nat):Int)) (h1:aj .i64 (x4-1)) (h2:(0:Int)≤(x4-1)∧(x4-1)<((n3:Nat):Int)) (h3:(0:Int)≤x4∧x4<((n3:Nat):Int)) (h4:(g4 ((x4-1).toNat))≠(g4 x4.toNat)) (h5: ¬(g4 ((x4-1).toNat))>x1) (h6: ¬(g4 x4.toNat)<x2) (h7: ¬x2>x1) (h8:aj .i64 (x4+1)) (k:Ok X (ao n3 g4 x1 x2 x3 (x4+1) x5 x6 x7 x8)):
  Ok X (ao n3 g4 x1 x2 x3 x4 x5 x6 x7 x8):=
 Ok.bg 81 [tb,fb,fb,fb,fb] [cN 113 [0,1,2,3,8,13,14]] [.ae 0, .ae 1, .ae 2] 1 hX.P hX.gl hX.n0 (by kernel_rfl) (by kernel_rfl) (by exact⟨fun _=>rfl,rfl,rfl,trivial⟩) (ca (dt h0) (ca h1 (ca h2 (ca (re n3) (ca h2 (ca h3 (ca (re n3) (ca h3 (ca (beq_eq_false_iff_ne.2 h4) (ca (df h5) (ca (df h6) (ca (df h7) (ca h8 na))))))))))))) k
theorem jR {X:Cx} {n3:Nat} {g4:Nat→Int} {x1 x2 x3 x4 x5 x6 x7 x8:Int} (hX:Fi X 87 [ri n3 g4] (.af [.agg [I x7,I x8],I 0]) []) (h0: ¬x4<((n3:Nat):Int)):
  Ok X (ao n3 g4 x1 x2 x3 x4 x5 x6 x7 x8):=
 Ok.fin 16 [fb] [] 3 hX (by kernel_rfl) rfl (ca (df h0) na)
theorem s8 {X:Cx} {n f:Nat} {g:Nat→Int} {a b:Int} (hf:1≤f) (hf2:f≤12) (hn:n≤1204) (hs: ∀ i,i<n-1→g i≤g (i+1)) (hd: ∀ i,i<n→1≤g i∧g i≤3652059) (ha:1≤a∧a≤3652059) (hb:1≤b∧b≤3652059) (hn2:2≤n)
  (hX:av X Tryz.prog GL 87 [some (.row false 3 n 1 (fun i=>[I (g i)]))] (RQ (cA a b f g (n-1))) []):
  ∀ (m k:Nat),n-1-k=m→k≤n-1→Ok X (ao n g a b (f:Int) ((k:Int)+1) 0 0 (cA a b f g k).num ((cA a b f g k).den:Int))
 |0,k,hm,hk=>by
  grind [jR]
 |m+1,k,hm,hk=>by
  have ih:=s8 hf hf2 hn hs hd ha hb hn2 hX m (k+1) (by omega) (by omega)
  rw[show(((k+1:Nat)):Int)=(k:Int)+1 by omega]at ih
  have e1:(((k:Int)+1)-1).toNat=k:=by omega
  have e2:((k:Int)+1).toNat=k+1:=by omega
  have d1:=hd k (by omega)
  have d2:=hd (k+1) (by omega)
  have hle:=hs k (by omega)
  have i1:aj .i64 (((k:Int)+1)-1):=by simp only[aj];omega
  have i2:aj .i64 (((k:Int)+1)+1):=by simp only[aj];omega
  have b1:(0:Int)≤(((k:Int)+1)-1)∧(((k:Int)+1)-1)<((n:Nat):Int):=by omega
  have b2:(0:Int)≤((k:Int)+1)∧((k:Int)+1)<((n:Nat):Int):=by omega
  by_cases heq:g k=g (k+1)
  ·grind [kR,cA,term]
  ·have hlt:g k<g (k+1):=by omega
   have hne:g (((k:Int)+1)-1).toNat≠g ((k:Int)+1).toNat:=by rw[e1,e2];exact heq
   have hstep:=zz hf hf2 hn hs hd a b (k:=k) (by omega)
   have hL:(f:Int)*(g (k+1)-g k)=((f*(g (k+1)-g k).toNat:Nat):Int):=by
    grind
   have hLb:f*(g (k+1)-g k).toNat≤12*3652058:=Nat.mul_le_mul hf2 (by omega)
   have hL0:f*(g (k+1)-g k).toNat≠0:=Nat.mul_ne_zero (by omega) (by omega)
   have i3:aj .i64 (g ((k:Int)+1).toNat-g (((k:Int)+1)-1).toNat):=by rw[e1,e2];simp only[aj];omega
   have i4:aj .i64 ((f:Int)*(g ((k:Int)+1).toNat-g (((k:Int)+1)-1).toNat)):=by rw[e1,e2,hL];simp only[aj];omega
   have hnew: ∀ o:Int,ov a b (g k) (g (k+1))=o→ab Tryz.prog GL 117 [I o,I ((f:Int)*(g ((k:Int)+1).toNat-g (((k:Int)+1)-1).toNat))] [] (RQ (term a b f g k)) []:=by
    intro o ho
    obtain⟨o',ho'⟩: ∃ o':Nat,o=(o':Int):=Int.eq_ofNat_of_zero_le (by rw[←ho];exact DN _ _ _ _)
    have hol:=DO (a:=a) (b:=b) (Int.le_of_lt hlt)
    rw[e1,e2,hL,ho']
    have:= @Da _ o' _ hL0 (by omega) (by omega)
    grind [term]
   have hnone:ov a b (g k) (g (k+1))=0→Ok X (ao n g a b (f:Int) (((k:Int)+1)+1) 0 0 (cA a b f g k).num ((cA a b f g k).den:Int)):=by
    intro ho
    have:cA a b f g (k+1)=cA a b f g k:=by
     show cA a b f g k+term a b f g k=_
     unfold term;rw[if_pos hlt,ho,Rat.zero_mkRat,Rat.add_zero]
    simp_all
   by_cases c1:g k>a
   ·have c1':g (((k:Int)+1)-1).toNat>a:=by rw[e1];exact c1
    by_cases c2:g (k+1)<b
    ·grind [kQ,ov]
    ·have c2': ¬g ((k:Int)+1).toNat<b:=by rw[e2];exact c2
     by_cases c3:b>g k
     ·have ho:ov a b (g k) (g (k+1))=b-g (((k:Int)+1)-1).toNat:=by
       grind [ov]
      exact jX hX (by omega) i1 b1 b2 hne c1' c2' (by rw[e1];exact c3) (by rw[e1];simp only[aj];omega) i3 i4 (hnew _ ho) hstep i2 ih
     grind [jW,ov]
   ·have c1': ¬g (((k:Int)+1)-1).toNat>a:=by rw[e1];exact c1
    by_cases c2:g (k+1)<b
    ·have c2':g ((k:Int)+1).toNat<b:=by rw[e2];exact c2
     by_cases c3:g (k+1)>a
     ·have ho:ov a b (g k) (g (k+1))=g ((k:Int)+1).toNat-a:=by
       grind [ov]
      exact jV hX (by omega) i1 b1 b2 hne c1' c2' (by rw[e2];exact c3) (by rw[e2];simp only[aj];omega) i3 i4 (hnew _ ho) hstep i2 ih
     grind [jU,ov]
    ·have c2': ¬g ((k:Int)+1).toNat<b:=by rw[e2];exact c2
     by_cases c3:b>a
     ·have ho:ov a b (g k) (g (k+1))=b-a:=by
       grind [ov]
      exact jT hX (by omega) i1 b1 b2 hne c1' c2' c3 (by simp only[aj];omega) i3 i4 (hnew _ ho) hstep i2 ih
     grind [jS,ov]
theorem JY {n:Nat} {g:Nat→Int} {a b f:Int}:ab Tryz.prog GL 87 [I a,I b, .sl 0 n,I f] [some (.row false 3 n 1 (fun i=>[I (g i)]))] (RT (ky a b n g f)) []:=by
 unfold ky
 cases hda:ai a
 ·rw[if_pos (.inl rfl)]
  exact kZ (dk a) (dk b) hda
 cases hdb:ai b
 ·rw[if_pos (.inr rfl)]
  exact kY (dk a) (dk b) hda hdb
 rw[if_neg (by simp)]
 by_cases hab:a>b
 ·rw[if_pos hab]
  exact kW (dk a) (dk b) hda hdb hab
 rw[if_neg hab]
 cases hm:iR n g f
 ·rw[if_pos (.inl rfl)]
  exact kV (dk a) (dk b) hda hdb hab FL hm
 obtain⟨m1,m2,m3,m4,m5,m6,m7⟩:=qQ hm
 have e:(((n:Nat):Int)-1).toNat=n-1:=by omega
 by_cases h0:a<g 0
 ·rw[if_pos (.inr (.inl h0))]
  exact kU (dk a) (dk b) hda hdb hab FL hm (by omega) h0
 by_cases h1:b>g (n-1)
 ·rw[if_pos (.inr (.inr h1))]
  exact kT (dk a) (dk b) hda hdb hab FL hm (by omega) h0 (by simp only[aj];omega) (by omega) (by rw[e];exact h1)
 rw[if_neg (by simp;omega)]
 obtain⟨F,rfl⟩: ∃ F:Nat,f=(F:Int):=Int.eq_ofNat_of_zero_le (by omega)
 refine ab.of (by kernel_rfl) rfl ⟨fun i=>rfl,trivial⟩ rfl (fun X hX=> ?_)
 refine kS hX (dk a) (dk b) hda hdb hab FL hm (by omega) h0 (by simp only[aj];omega) (by omega) (by rw[e];exact h1) ?_
 unfold ai at hda hdb
 rw[decide_eq_true_eq]at hda hdb
 exact s8 (by omega) (by omega) m2 m6 m5 hda hdb m1 hX (n-1) 0 (by omega) (by omega)
end Go.Proofs.YtelidogcomffkaaGreatDoor
