import Derived.Test.YtelidogcomffkaaGreatDoorCiv
import Derived.Test.YtelidogcomffkaaGreatDoorProg
import Derived.KernelRfl
import Derived.Laws.Externs
set_option linter.unusedSectionVars false
set_option linter.unusedSimpArgs false
set_option linter.unusedVariables false
set_option maxRecDepth 100000
namespace Go.Proofs.YtelidogcomffkaaGreatDoor
open Go Go.Sx
variable [Env]
def mayB (n:Nat) (g:Nat→Int) (f:Int):Bool:=
 decide (2≤n∧n≤1204∧1≤f∧f≤12∧(∀ i,i<n→isDay (g i)=true)∧(∀ i,i<n-1→g i≤g (i+1))∧g 0<g (n-1))
def sortedB (n:Nat) (g:Nat→Int):Bool:=decide (∀ i,i<n-1→g i≤g (i+1))
theorem icma_day_0 {a1 r2 r3 r4 r5:Int} (h0:S 60 [I a1] [] (.tup [.agg [I r2,I r3,I r4],I r5]) []):
  S 226 [I a1] [] (B (r5==0)) []:=
 SCall.path 21 [.call [] (.tup [.agg [I r2,I r3,I r4],I r5]) []] [] 1 (by kernel_rfl) rfl (by exact trivial) (ca h0 na)
theorem iday (n:Int):SCall Tryz.prog GL 226 [I n] [] (B (isDay n)) []:=by
 unfold isDay
 by_cases h:1≤n∧n≤3652059
 ·rw[decide_eq_true h]
  exact icma_day_0 (cOf h.1 h.2)
 ·rw[decide_eq_false h]
  exact icma_day_0 (cOf_bad h)
noncomputable def slices_IsSorted_int_int__h0 (n1:Nat) (g2:Nat→Int) (x1:Int):SC:=
 ⟨[⟨247,slo 21 [(0, .sl 0 n1),(3,I x1)],[.code (bodyAt Tryz.f247 [1,0,1,0,0]), .inLoop (bodyAt Tryz.f247 [1,0,1,0,0]), .inBlock 0, .code (bodyAt Tryz.f247 [1,1])],{}⟩],[ri n1 g2]⟩
theorem slices_IsSorted_int_int__0 {X:Cx} {res:SV} {new:List (Option Vw)} {n1:Nat} {g2:Nat→Int} (hX:Fi X 247 [ri n1 g2] res new) (h0:InR .i64 (((n1:Nat):Int)-1)) (k:Ok X (slices_IsSorted_int_int__h0 n1 g2 (((n1:Nat):Int)-1))):
  Ok X (entry Tryz.prog 247 [.sl 0 n1] [ri n1 g2]):=
 Ok.cutM 14 [] [msk 21 [0,3]] [.old 0] 1 hX.P hX.gl hX.n0 (by kernel_rfl) (by kernel_rfl) (by exact⟨fun _=>rfl,trivial⟩) (ca h0 na) k
theorem slices_IsSorted_int_int__1 {X:Cx} {n1:Nat} {g2:Nat→Int} {x1:Int} (hX:Fi X 247 [ri n1 g2] (B false) []) (h0:x1>0) (h1:(0:Int)≤x1∧x1<((n1:Nat):Int)) (h2:InR .i64 (x1-1)) (h3:(0:Int)≤(x1-1)∧(x1-1)<((n1:Nat):Int)) (h4:(g2 x1.toNat)<(g2 ((x1-1).toNat))):
  Ok X (slices_IsSorted_int_int__h0 n1 g2 x1):=
 Ok.fin 19 [tb, .draw 9 [] 0, .call [] (B (decide ((g2 x1.toNat)<(g2 ((x1-1).toNat))))) [],tb] [] 1 hX (by kernel_rfl) rfl (ca (dt h0) (ca h1 (ca (re n1) (ca h1 (ca h2 (ca h3 (ca (re n1) (ca h3 (ca (show S 234 [I (g2 x1.toNat),I (g2 ((x1-1).toNat))] [] (B (decide ((g2 x1.toNat)<(g2 ((x1-1).toNat))))) []from cmp_Less_i) (ca (dt h4) na))))))))))
theorem slices_IsSorted_int_int__2 {X:Cx} {res:SV} {new:List (Option Vw)} {n1:Nat} {g2:Nat→Int} {x1:Int} (hX:Fi X 247 [ri n1 g2] res new) (h0:x1>0) (h1:(0:Int)≤x1∧x1<((n1:Nat):Int)) (h2:InR .i64 (x1-1)) (h3:(0:Int)≤(x1-1)∧(x1-1)<((n1:Nat):Int)) (h4: ¬(g2 x1.toNat)<(g2 ((x1-1).toNat))) (k:Ok X (slices_IsSorted_int_int__h0 n1 g2 (x1-1))):
  Ok X (slices_IsSorted_int_int__h0 n1 g2 x1):=
 Ok.cutM 23 [tb, .draw 9 [] 0, .call [] (B (decide ((g2 x1.toNat)<(g2 ((x1-1).toNat))))) [],fb] [msk 21 [0,3]] [.old 0] 1 hX.P hX.gl hX.n0 (by kernel_rfl) (by kernel_rfl) (by exact⟨fun _=>rfl,trivial⟩) (ca (dt h0) (ca h1 (ca (re n1) (ca h1 (ca h2 (ca h3 (ca (re n1) (ca h3 (ca (show S 234 [I (g2 x1.toNat),I (g2 ((x1-1).toNat))] [] (B (decide ((g2 x1.toNat)<(g2 ((x1-1).toNat))))) []from cmp_Less_i) (ca (df h4) (ca h2 na))))))))))) k
theorem slices_IsSorted_int_int__3 {X:Cx} {n1:Nat} {g2:Nat→Int} {x1:Int} (hX:Fi X 247 [ri n1 g2] (B true) []) (h0: ¬x1>0):
  Ok X (slices_IsSorted_int_int__h0 n1 g2 x1):=
 Ok.fin 12 [fb] [] 1 hX (by kernel_rfl) rfl (ca (df h0) na)
theorem sorted_loop {X:Cx} {n:Nat} {g:Nat→Int} (hn:n≤1204) (hX:IsFin X Tryz.prog GL 247 [some (.row false 3 n 1 (fun i=>[I (g i)]))] (B (sortedB n g)) []):
  ∀ (i:Nat),i≤n-1→(∀ j,i≤j→j<n-1→g j≤g (j+1))→Ok X (slices_IsSorted_int_int__h0 n g (i:Int))
 |0,hi,h=>by
  refine slices_IsSorted_int_int__3 ?_ (by omega)
  have:sortedB n g=true:=decide_eq_true (fun j hj=>h j (by omega) hj)
  rwa [this]at hX
 |i+1,hi,h=>by
  have e:(((i+1:Nat):Int)-1).toNat=i:=by omega
  have e2:(((i+1:Nat):Int)).toNat=i+1:=by omega
  by_cases hlt:g (i+1)<g i
  ·refine slices_IsSorted_int_int__1 ?_ (by omega) (by omega) (by simp only[InR];omega) (by omega) (by rw[e,e2];exact hlt)
   have:sortedB n g=false:=decide_eq_false (fun hh=>by have:=hh i (by omega);omega)
   rwa [this]at hX
  ·refine slices_IsSorted_int_int__2 hX (by omega) (by omega) (by simp only[InR];omega) (by omega) (by rw[e,e2];exact hlt) ?_
   rw[show(((i+1:Nat):Int)-1)=(i:Int)by omega]
   refine sorted_loop hn hX i (by omega) (fun j h1 h2=> ?_)
   by_cases hj:j=i
   ·subst hj;omega
   ·exact h j (by omega) h2
theorem sorted_ok {n:Nat} {g:Nat→Int} (hn:n≤1204):SCall Tryz.prog GL 247 [.sl 0 n] [some (.row false 3 n 1 (fun i=>[I (g i)]))] (B (sortedB n g)) []:=by
 refine SCall.of (by kernel_rfl) rfl ⟨fun i=>rfl,trivial⟩ rfl (fun X hX=> ?_)
 refine slices_IsSorted_int_int__0 hX (by simp only[InR];omega) ?_
 by_cases h0:n=0
 ·subst h0
  refine slices_IsSorted_int_int__3 ?_ (by omega)
  have:sortedB 0 g=true:=decide_eq_true (fun j hj=>by omega)
  rwa [this]at hX
 ·have:=sorted_loop hn hX (n-1) (Nat.le_refl _) (fun j h1 h2=>by omega)
  rwa [show((n-1:Nat):Int)=(n:Int)-1 by omega]at this
theorem icma_May_0 {n1:Nat} {g2:Nat→Int} {a3:Int} (h0:((n1:Nat):Int)<2):
  S 227 [.sl 0 n1,I a3] [ri n1 g2] (B false) []:=
 SCall.path 29 [tb,tb,tb,tb,tb,tb,tb,tb,tb,tb,tb] [] 1 (by kernel_rfl) rfl (by exact⟨fun _=>rfl,trivial⟩) (ca (dt h0) (ca (dt h0) (ca (dt h0) (ca (dt h0) (ca rt (ca rt (ca rt (ca rt (ca rt (ca rt (ca rt na)))))))))))
theorem icma_May_1 {n1:Nat} {g2:Nat→Int} {a3:Int} (h0: ¬((n1:Nat):Int)<2) (h1:((n1:Nat):Int)>1204):
  S 227 [.sl 0 n1,I a3] [ri n1 g2] (B false) []:=
 SCall.path 29 [fb,fb,fb,fb,tb,tb,tb,tb,tb,tb,tb] [] 1 (by kernel_rfl) rfl (by exact⟨fun _=>rfl,trivial⟩) (ca (df h0) (ca (df h0) (ca (df h0) (ca (df h0) (ca (dt h1) (ca (dt h1) (ca (dt h1) (ca rt (ca rt (ca rt (ca rt na)))))))))))
theorem icma_May_2 {n1:Nat} {g2:Nat→Int} {a3:Int} (h0: ¬((n1:Nat):Int)<2) (h1: ¬((n1:Nat):Int)>1204) (h2:a3<1):
  S 227 [.sl 0 n1,I a3] [ri n1 g2] (B false) []:=
 SCall.path 29 [fb,fb,fb,fb,fb,fb,fb,tb,tb,tb,tb] [] 1 (by kernel_rfl) rfl (by exact⟨fun _=>rfl,trivial⟩) (ca (df h0) (ca (df h0) (ca (df h0) (ca (df h0) (ca (df h1) (ca (df h1) (ca (df h1) (ca (dt h2) (ca (dt h2) (ca (dt h2) (ca rt na)))))))))))
theorem icma_May_3 {n1:Nat} {g2:Nat→Int} {a3:Int} (h0: ¬((n1:Nat):Int)<2) (h1: ¬((n1:Nat):Int)>1204) (h2: ¬a3<1) (h3:a3>12):
  S 227 [.sl 0 n1,I a3] [ri n1 g2] (B false) []:=
 SCall.path 29 [fb,fb,fb,fb,fb,fb,fb,fb,fb,fb,tb] [] 1 (by kernel_rfl) rfl (by exact⟨fun _=>rfl,trivial⟩) (ca (df h0) (ca (df h0) (ca (df h0) (ca (df h0) (ca (df h1) (ca (df h1) (ca (df h1) (ca (df h2) (ca (df h2) (ca (df h2) (ca (dt h3) na)))))))))))
noncomputable def icma_May_h0 (n1:Nat) (g2:Nat→Int) (x1:Int) (x2:Int):SC:=
 ⟨[⟨130,slo 19 [(0, .sl 0 n1),(1, .fn (.func 246) [] []),(7,I x1),(8,I x2)],[.code (bodyAt Tryz.f130 [1,0,1,0,0]), .inLoop (bodyAt Tryz.f130 [1,0,1,0,0]), .inBlock 0, .code (bodyAt Tryz.f130 [1,1])],{}⟩,⟨245,[none,none,none,none,none,some (.sl 0 n1),some (.fn (.func 246) [] []),none,none],[.inRegion (opsAt Tryz.f245 [1,0]) [2,3,4], .code (bodyAt Tryz.f245 [1,1])],{}⟩,⟨227,slo 42 [(0, .sl 0 n1),(22, .sl 0 n1)],[.inRegion (opsAt Tryz.f227 [1,1,0]) [1,2,3], .code (bodyAt Tryz.f227 [1,1,1])],{}⟩],[ri n1 g2]⟩
theorem icma_May_4 {X:Cx} {res:SV} {new:List (Option Vw)} {n1:Nat} {g2:Nat→Int} {a3:Int} (hX:Fi X 227 [ri n1 g2] res new) (h0: ¬((n1:Nat):Int)<2) (h1: ¬((n1:Nat):Int)>1204) (h2: ¬a3<1) (h3: ¬a3>12) (k:Ok X (icma_May_h0 n1 g2 ((n1:Nat):Int) 0)):
  Ok X (entry Tryz.prog 227 [.sl 0 n1,I a3] [ri n1 g2]):=
 Ok.cutM 52 [fb,fb,fb,fb,fb,fb,fb,fb,fb,fb,fb, .inl, .inl] [msk 19 [0,1,7,8],[false,false,false,false,false,true,true,false,false],msk 42 [0,22]] [.old 0] 1 hX.P hX.gl hX.n0 (by kernel_rfl) (by kernel_rfl) (by exact⟨fun _=>rfl,trivial⟩) (ca (df h0) (ca (df h0) (ca (df h0) (ca (df h0) (ca (df h1) (ca (df h1) (ca (df h1) (ca (df h2) (ca (df h2) (ca (df h2) (ca (df h3) na))))))))))) k
theorem icma_May_7 {X:Cx} {n1:Nat} {g2:Nat→Int} {x1 x2:Int} {r5003:Bool} (hX:Fi X 227 [ri n1 g2] (B false) []) (h0:x2<x1) (h1:(0:Int)≤x2∧x2<((n1:Nat):Int)) (h2:S 226 [I (g2 x2.toNat)] [] (B r5003) []) (h3:r5003=false) (h4:x2≥0):
  Ok X (icma_May_h0 n1 g2 x1 x2):=
 Ok.fin 55 [tb, .inl, .call [] (B r5003) [],tb, .draw 15 [] 0,fb,fb,fb,fb,fb,fb,fb,fb,fb,fb,fb,fb,fb,fb] [] 1 hX (by kernel_rfl) rfl (ca (dt h0) (ca h1 (ca (re n1) (ca h1 (ca h2 (ca (nt h3) (ca (Go.Sx.not_f (dt h4)) (ca (Go.Sx.not_f (dt h4)) (ca (Go.Sx.not_f (dt h4)) (ca rf (ca rf (ca rf (ca rf (ca rf (ca rf (ca rf (ca rf (ca rf (ca rf (ca rf na))))))))))))))))))))
theorem icma_May_8 {X:Cx} {res:SV} {new:List (Option Vw)} {n1:Nat} {g2:Nat→Int} {x1 x2:Int} {r5003:Bool} (hX:Fi X 227 [ri n1 g2] res new) (h0:x2<x1) (h1:(0:Int)≤x2∧x2<((n1:Nat):Int)) (h2:S 226 [I (g2 x2.toNat)] [] (B r5003) []) (h3:r5003=true) (h4:InR .i64 (x2+1)) (k:Ok X (icma_May_h0 n1 g2 x1 (x2+1))):
  Ok X (icma_May_h0 n1 g2 x1 x2):=
 Ok.cutM 43 [tb, .inl, .call [] (B r5003) [],fb] [msk 19 [0,1,7,8],[false,false,false,false,false,true,true,false,false],msk 42 [0,22]] [.old 0] 1 hX.P hX.gl hX.n0 (by kernel_rfl) (by kernel_rfl) (by exact⟨fun _=>rfl,trivial⟩) (ca (dt h0) (ca h1 (ca (re n1) (ca h1 (ca h2 (ca (nf h3) (ca h4 na))))))) k
theorem icma_May_9 {X:Cx} {n1:Nat} {g2:Nat→Int} {x1 x2:Int} {r5003:Bool} (hX:Fi X 227 [ri n1 g2] (B (decide ((g2 0)<(g2 ((((n1:Nat):Int)-1).toNat))))) []) (h0: ¬x2<x1) (h1:S 247 [.sl 0 n1] [ri n1 g2] (B r5003) []) (h2:r5003=true) (h3:(0:Int)≤0∧0<((n1:Nat):Int)) (h4:InR .i64 (((n1:Nat):Int)-1)) (h5:(0:Int)≤(((n1:Nat):Int)-1)∧(((n1:Nat):Int)-1)<((n1:Nat):Int)):
  Ok X (icma_May_h0 n1 g2 x1 x2):=
 Ok.fin 25 [fb, .draw 15 [] 0,tb,tb, .call [0] (B r5003) [],tb,tb,tb,tb,tb,tb,tb,tb,tb,tb,tb,tb] [] 1 hX (by kernel_rfl) rfl (ca (df h0) (ca (show(!decide (((-1):Int)≥0))=true from rfl) (ca (show(!decide (((-1):Int)≥0))=true from rfl) (ca h1 (ca (show(!decide (((-1):Int)≥0))=true from rfl) (ca h2 (ca h2 (ca h3 (ca (re n1) (ca h2 (ca h3 (ca h2 (ca h2 (ca h2 (ca h2 (ca h4 (ca h2 (ca h5 (ca (re n1) (ca h2 (ca h5 (ca h2 (ca h2 na)))))))))))))))))))))))
theorem icma_May_10 {X:Cx} {n1:Nat} {g2:Nat→Int} {x1 x2:Int} {r5003:Bool} (hX:Fi X 227 [ri n1 g2] (B false) []) (h0: ¬x2<x1) (h1:S 247 [.sl 0 n1] [ri n1 g2] (B r5003) []) (h2:r5003=false):
  Ok X (icma_May_h0 n1 g2 x1 x2):=
 Ok.fin 25 [fb, .draw 15 [] 0,tb,tb, .call [0] (B r5003) [],tb,fb,fb,fb,fb,fb,fb,fb,fb,fb,fb,fb] [] 1 hX (by kernel_rfl) rfl (ca (df h0) (ca (show(!decide (((-1):Int)≥0))=true from rfl) (ca (show(!decide (((-1):Int)≥0))=true from rfl) (ca h1 (ca (show(!decide (((-1):Int)≥0))=true from rfl) (ca h2 (ca h2 (ca h2 (ca h2 (ca h2 (ca h2 (ca h2 (ca h2 (ca h2 (ca h2 (ca h2 na))))))))))))))))
theorem may_split {n:Nat} {g:Nat→Int} {f:Int} (h1: ¬((n:Nat):Int)<2) (h2: ¬((n:Nat):Int)>1204) (h3: ¬f<1) (h4: ¬f>12):
  mayB n g f=(decide (∀ i,i<n→isDay (g i)=true)&&(sortedB n g&&decide (g 0<g (n-1)))):=by
 unfold mayB sortedB
 rw[Bool.eq_iff_iff]
 simp only[decide_eq_true_eq,Bool.and_eq_true]
 constructor
 ·rintro ⟨-, -, -, -,a,b,c⟩;exact⟨a,b,c⟩
 ·rintro ⟨a,b,c⟩;exact⟨by omega,by omega,by omega,by omega,a,b,c⟩
theorem imay_loop {X:Cx} {n:Nat} {g:Nat→Int} {f:Int} (h1: ¬((n:Nat):Int)<2) (h2: ¬((n:Nat):Int)>1204) (h3: ¬f<1) (h4: ¬f>12) (hX:IsFin X Tryz.prog GL 227 [some (.row false 3 n 1 (fun i=>[I (g i)]))] (B (mayB n g f)) []):
  ∀ (m i:Nat),n-i=m→i≤n→(∀ j,j<i→isDay (g j)=true)→Ok X (icma_May_h0 n g (n:Int) (i:Int))
 |0,i,hm,hi,h=>by
  have hall:(decide (∀ i,i<n→isDay (g i)=true))=true:=decide_eq_true (fun j hj=>h j (by omega))
  rw[may_split h1 h2 h3 h4,hall,Bool.true_and]at hX
  cases hs:sortedB n g
  ·rw[hs,Bool.false_and]at hX
   exact icma_May_10 hX (by omega) (sorted_ok (by omega)) hs
  ·rw[hs,Bool.true_and]at hX
   refine icma_May_9 ?_ (by omega) (sorted_ok (by omega)) hs (by omega) (by simp only[InR];omega) (by omega)
   rw[show(((n:Nat):Int)-1).toNat=n-1 by omega]
   exact hX
 |m+1,i,hm,hi,h=>by
  have e:(i:Int).toNat=i:=rfl
  cases hd:isDay (g i)
  ·have hall:(decide (∀ i,i<n→isDay (g i)=true))=false:=decide_eq_false (fun hh=>by rw[hh i (by omega)]at hd;cases hd)
   rw[may_split h1 h2 h3 h4,hall,Bool.false_and]at hX
   exact icma_May_7 hX (by omega) (by omega) (iday _) hd (by omega)
  ·refine icma_May_8 hX (by omega) (by omega) (iday _) hd (by simp only[InR];omega) ?_
   have:=imay_loop h1 h2 h3 h4 hX m (i+1) (by omega) (by omega) (fun j hj=>by
    by_cases hji:j=i
    ·subst hji;exact hd
    ·exact h j (by omega))
   rwa [show(((i+1:Nat)):Int)=(i:Int)+1 by omega]at this
theorem imay {n:Nat} {g:Nat→Int} {f:Int}:SCall Tryz.prog GL 227 [.sl 0 n,I f] [some (.row false 3 n 1 (fun i=>[I (g i)]))] (B (mayB n g f)) []:=by
 by_cases h1:((n:Nat):Int)<2
 ·rw[show mayB n g f=false from decide_eq_false (by omega)];exact icma_May_0 h1
 by_cases h2:((n:Nat):Int)>1204
 ·rw[show mayB n g f=false from decide_eq_false (by omega)];exact icma_May_1 h1 h2
 by_cases h3:f<1
 ·rw[show mayB n g f=false from decide_eq_false (by omega)];exact icma_May_2 h1 h2 h3
 by_cases h4:f>12
 ·rw[show mayB n g f=false from decide_eq_false (by omega)];exact icma_May_3 h1 h2 h3 h4
 refine SCall.of (by kernel_rfl) rfl ⟨fun i=>rfl,trivial⟩ rfl (fun X hX=> ?_)
 exact icma_May_4 hX h1 h2 h3 h4 (imay_loop h1 h2 h3 h4 hX n 0 rfl (by omega) (fun j hj=>by omega))
end Go.Proofs.YtelidogcomffkaaGreatDoor
