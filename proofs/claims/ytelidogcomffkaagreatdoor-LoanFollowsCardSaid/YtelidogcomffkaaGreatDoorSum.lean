import Derived.Test.YtelidogcomffkaaGreatDoorAct
import Derived.Test.YtelidogcomffkaaGreatDoorIcm
import Derived.Test.YtelidogcomffkaaGreatDoorProg
import Derived.KernelRfl
import Derived.Laws.Externs
set_option linter.unusedSectionVars false
set_option linter.unusedSimpArgs false
set_option linter.unusedVariables false
set_option maxRecDepth 100000
set_option linter.unusedVariables false
set_option linter.unusedSimpArgs false
set_option linter.unusedSectionVars false
namespace Go.Proofs.YtelidogcomffkaaGreatDoor
open Go Go.Sx
variable [Env]
def ov (a b lo hi:Int):Int:=if 0<((if hi<b then hi else b)-(if a<lo then lo else a))then((if hi<b then hi else b)-(if a<lo then lo else a))else 0
def term (a b:Int) (f:Nat) (g:Nat→Int) (k:Nat):Rat:=if g k<g (k+1)then mkRat (ov a b (g k) (g (k+1))) (f*(g (k+1)-g k).toNat)else 0
def psum (a b:Int) (f:Nat) (g:Nat→Int):Nat→Rat
 |0=>0
 |k+1=>psum a b f g k+term a b f g k
theorem ov_nn (a b lo hi:Int):0≤ov a b lo hi:=by unfold ov;split<;>omega
theorem ov_le {a b lo hi:Int} (h:lo≤hi):ov a b lo hi≤hi-lo:=by unfold ov;split<;>(try split at*)<;>(try split at*)<;>omega
theorem mono_le {n:Nat} {g:Nat→Int} (hs: ∀ i,i<n-1→g i≤g (i+1)) {i j:Nat} (h:i≤j) (hj:j≤n-1):g i≤g j:=by
 induction j with
 |zero=>have:i=0:=by omega
        subst this;omega
 |succ j ih=>
  by_cases h1:i=j+1
  ·subst h1;omega
  ·have:=ih (by omega) (by omega)
   have:=hs j (by omega)
   omega
theorem inside_len {n:Nat} {g:Nat→Int} (hs: ∀ i,i<n-1→g i≤g (i+1)) (hd: ∀ i,i<n→1≤g i∧g i≤3652059) (a:Int):
  ∃ L:Nat,1≤L∧L≤3652058∧ ∀ k,k<n-1→g k<a→a<g (k+1)→(g (k+1)-g k).toNat=L:=by
 by_cases h: ∃ k,k<n-1∧g k<a∧a<g (k+1)
 ·obtain⟨k,h1,h2,h3⟩:=h
  have d1:=hd k (by omega)
  have d2:=hd (k+1) (by omega)
  refine⟨(g (k+1)-g k).toNat,by omega,by omega,fun j h4 h5 h6=> ?_⟩
  rcases Nat.lt_trichotomy j k with hj|hj|hj
  ·have:=mono_le hs (i:=j+1) (j:=k) (by omega) (by omega);omega
  ·rw[hj]
  ·have:=mono_le hs (i:=k+1) (j:=j) (by omega) (by omega);omega
 ·exact⟨1,by omega,by omega,fun k h1 h2 h3=>absurd ⟨k,h1,h2,h3⟩ h⟩
theorem one_den {n:Nat} {g:Nat→Int} {f:Nat} (hf:1≤f) (hf2:f≤12) (hs: ∀ i,i<n-1→g i≤g (i+1)) (hd: ∀ i,i<n→1≤g i∧g i≤3652059) (a b:Int):
  ∃ M:Nat,M≠0∧M≤160050331624368∧ ∀ k,k<n-1→ ∃ c:Nat,c≤M∧term a b f g k=mkRat (c:Int) M:=by
 obtain⟨La,a1,a2,a3⟩:=inside_len hs hd a
 obtain⟨Lb,b1,b2,b3⟩:=inside_len hs hd b
 have hM:f*La*Lb≤12*3652058*3652058:=Nat.mul_le_mul (Nat.mul_le_mul hf2 a2) b2
 have hM0:f*La*Lb≠0:=Nat.mul_ne_zero (Nat.mul_ne_zero (by omega) (by omega)) (by omega)
 refine⟨f*La*Lb,hM0,by omega,fun k hk=> ?_⟩
 unfold term
 by_cases hlt:g k<g (k+1)
 ·rw[if_pos hlt]
  obtain⟨o,ho⟩: ∃ o:Nat,ov a b (g k) (g (k+1))=(o:Int):=Int.eq_ofNat_of_zero_le (ov_nn _ _ _ _)
  have hle:=ov_le (a:=a) (b:=b) (Int.le_of_lt hlt)
  obtain⟨L,hL⟩: ∃ L:Nat,(g (k+1)-g k).toNat=L:=⟨_,rfl⟩
  have hol:o≤L:=by omega
  have hL0:L≠0:=by omega
  rw[ho,hL]
  by_cases ho0:o=0
  ·subst ho0
   exact⟨0,Nat.zero_le _,by rw[Int.natCast_zero,Rat.zero_mkRat,Rat.zero_mkRat]⟩
  by_cases hina:g k<a∧a<g (k+1)
  ·have e:=a3 k hk hina.1 hina.2
   rw[hL]at e
   subst e
   refine⟨o*Lb, ?_, ?_⟩
   ·exact Nat.mul_le_mul_right _ (Nat.le_trans hol (Nat.le_mul_of_pos_left _ (by omega)))
   ·rw[Int.natCast_mul,Rat.mkRat_mul_right (by omega)]
  ·by_cases hinb:g k<b∧b<g (k+1)
   ·have e:=b3 k hk hinb.1 hinb.2
    rw[hL]at e
    subst e
    refine⟨o*La, ?_, ?_⟩
    ·rw[Nat.mul_right_comm]
     exact Nat.mul_le_mul_right _ (Nat.le_trans hol (Nat.le_mul_of_pos_left _ (by omega)))
    ·rw[Nat.mul_right_comm f La L,Int.natCast_mul,Rat.mkRat_mul_right (by omega)]
   ·have hoL:o=L:=by
     unfold ov at ho
     split at ho
     ·(try split at ho)<;>(try split at ho)<;>omega
     ·omega
    refine⟨La*Lb, ?_, ?_⟩
    ·rw[Nat.mul_assoc];exact Nat.le_mul_of_pos_left _ (by omega)
    ·rw[hoL,Rat.mkRat_eq_iff (Nat.mul_ne_zero (by omega) hL0) hM0]
     rw[←Int.natCast_mul,←Int.natCast_mul]
     congr 1
     rw[Nat.mul_assoc f,Nat.mul_left_comm,Nat.mul_comm L,←Nat.mul_assoc,Nat.mul_comm f,Nat.mul_assoc]
 ·rw[if_neg hlt]
  exact⟨0,Nat.zero_le _,by rw[Int.natCast_zero,Rat.zero_mkRat]⟩
theorem psum_den {n:Nat} {g:Nat→Int} {f M:Nat} {a b:Int} (hM:M≠0) (h: ∀ k,k<n-1→ ∃ c:Nat,c≤M∧term a b f g k=mkRat (c:Int) M):
  ∀ k,k≤n-1→ ∃ C:Nat,C≤k*M∧psum a b f g k=mkRat (C:Int) M
 |0,_=>⟨0,by omega,by rw[Int.natCast_zero,Rat.zero_mkRat];rfl⟩
 |k+1,hk=>by
  obtain⟨C,h1,h2⟩:=psum_den hM h k (by omega)
  obtain⟨c,h3,h4⟩:=h k (by omega)
  refine⟨C+c,by rw[Nat.add_mul];omega, ?_⟩
  show psum a b f g k+term a b f g k=_
  rw[h2,h4,mkRat_add_same C c hM]
theorem psum_sum {n:Nat} {g:Nat→Int} {f:Nat} (hf:1≤f) (hf2:f≤12) (hn:n≤1204) (hs: ∀ i,i<n-1→g i≤g (i+1)) (hd: ∀ i,i<n→1≤g i∧g i≤3652059) (a b:Int) {k:Nat} (hk:k<n-1):
  ∃ M C c:Nat,M≠0∧C+c≤4611686018427387904∧M≤4611686018427387904∧psum a b f g k=mkRat (C:Int) M∧term a b f g k=mkRat (c:Int) M∧psum a b f g (k+1)=mkRat ((C+c:Nat):Int) M:=by
 obtain⟨M,h1,h2,h3⟩:=one_den hf hf2 hs hd a b
 obtain⟨C,h4,h5⟩:=psum_den h1 h3 k (by omega)
 obtain⟨c,h6,h7⟩:=h3 k hk
 have hkM:k*M≤1203*160050331624368:=Nat.mul_le_mul (by omega) h2
 have e:psum a b f g (k+1)=mkRat ((C+c:Nat):Int) M:=by
  show psum a b f g k+term a b f g k=_
  rw[h5,h7,mkRat_add_same C c h1]
 exact⟨M,C,c,h1,by omega,by omega,h5,h7,e⟩
theorem psum_stepP {n:Nat} {g:Nat→Int} {f:Nat} (hf:1≤f) (hf2:f≤12) (hn:n≤1204) (hs: ∀ i,i<n-1→g i≤g (i+1)) (hd: ∀ i,i<n→1≤g i∧g i≤3652059) (a b:Int) {k:Nat} (hk:k<n-1):
  SCall Tryz.prog GL 195 [QV (psum a b f g k),QV (term a b f g k)] [] (RQ (psum a b f g (k+1))) []:=by
 obtain⟨M,C,c,h1,h2,h3,h4,h5,e⟩:=psum_sum hf hf2 hn hs hd a b hk
 rw[e,h4,h5]
 exact r_AddQ h1 h2 h3
end Go.Proofs.YtelidogcomffkaaGreatDoor
set_option linter.unusedVariables false
set_option linter.unusedSimpArgs false
set_option linter.unusedSectionVars false
set_option maxRecDepth 100000
namespace Go.Proofs.YtelidogcomffkaaGreatDoor
open Go Go.Sx
variable [Env]
def partR (a b:Int) (n:Nat) (g:Nat→Int) (f:Int):Int×Int×Int:=
 if isDay a=false∨isDay b=false then(0,0,3)else if a>b then(0,0,4)else if mayB n g f=false∨a<g 0∨b>g (n-1)then(0,0,5)
 else((psum a b f.toNat g (n-1)).num,((psum a b f.toNat g (n-1)).den:Int),0)
theorem may_facts {n:Nat} {g:Nat→Int} {f:Int} (h:mayB n g f=true):2≤n∧n≤1204∧1≤f∧f≤12∧(∀ i,i<n→1≤g i∧g i≤3652059)∧(∀ i,i<n-1→g i≤g (i+1))∧g 0<g (n-1):=by
 unfold mayB at h
 rw[decide_eq_true_eq]at h
 obtain⟨h1,h2,h3,h4,h5,h6,h7⟩:=h
 refine⟨h1,h2,h3,h4,fun i hi=> ?_,h6,h7⟩
 have:=h5 i hi
 unfold isDay at this
 rwa [decide_eq_true_eq]at this
end Go.Proofs.YtelidogcomffkaaGreatDoor
namespace Go.Proofs.YtelidogcomffkaaGreatDoor
open Go Go.Sx
variable [Env]
theorem icma_sum_0 {a1 a2:Int} {n3:Nat} {g4:Nat→Int} {a5:Int} {r6:Bool} (h0:S 226 [I a1] [] (B r6) []) (h1:r6=false):
  S 196 [I a1,I a2, .sl 0 n3,I a5] [ri n3 g4] (.tup [.agg [I 0,I 0], .ifc 267 (.agg [I 3])]) []:=
 SCall.path 31 [.call [] (B r6) [],tb,tb,tb,tb,tb] [] 6 (by kernel_rfl) rfl (by exact⟨fun _=>rfl,trivial⟩) (ca h0 (ca (nt h1) (ca (nt h1) (ca (nt h1) (ca (nt h1) (ca rt na))))))
theorem icma_sum_1 {a1 a2:Int} {n3:Nat} {g4:Nat→Int} {a5:Int} {r6 r7:Bool} (h0:S 226 [I a1] [] (B r6) []) (h1:r6=true) (h2:S 226 [I a2] [] (B r7) []) (h3:r7=false):
  S 196 [I a1,I a2, .sl 0 n3,I a5] [ri n3 g4] (.tup [.agg [I 0,I 0], .ifc 267 (.agg [I 3])]) []:=
 SCall.path 31 [.call [] (B r6) [],fb,fb, .call [] (B r7) [],fb,fb,tb] [] 6 (by kernel_rfl) rfl (by exact⟨fun _=>rfl,trivial⟩) (ca h0 (ca (nf h1) (ca (nf h1) (ca h2 (ca (nf h1) (ca (nf h1) (ca (nt h3) na)))))))
theorem icma_sum_2 {a1 a2:Int} {n3:Nat} {g4:Nat→Int} {a5:Int} {r6 r7:Bool} (h0:S 226 [I a1] [] (B r6) []) (h1:r6=true) (h2:S 226 [I a2] [] (B r7) []) (h3:r7=true) (h4:a1>a2):
  S 196 [I a1,I a2, .sl 0 n3,I a5] [ri n3 g4] (.tup [.agg [I 0,I 0], .ifc 267 (.agg [I 4])]) []:=
 SCall.path 39 [.call [] (B r6) [],fb,fb, .call [] (B r7) [],fb,fb,fb,tb] [] 6 (by kernel_rfl) rfl (by exact⟨fun _=>rfl,trivial⟩) (ca h0 (ca (nf h1) (ca (nf h1) (ca h2 (ca (nf h1) (ca (nf h1) (ca (nf h3) (ca (dt h4) na))))))))
theorem icma_sum_3 {a1 a2:Int} {n3:Nat} {g4:Nat→Int} {a5:Int} {r6 r7 r8:Bool} (h0:S 226 [I a1] [] (B r6) []) (h1:r6=true) (h2:S 226 [I a2] [] (B r7) []) (h3:r7=true) (h4: ¬a1>a2) (h5:S 227 [.sl 0 n3,I a5] [ri n3 g4] (B r8) []) (h6:r8=false):
  S 196 [I a1,I a2, .sl 0 n3,I a5] [ri n3 g4] (.tup [.agg [I 0,I 0], .ifc 267 (.agg [I 5])]) []:=
 SCall.path 46 [.call [] (B r6) [],fb,fb, .call [] (B r7) [],fb,fb,fb,fb, .draw 19 [] 0, .call [0] (B r8) [],tb,tb,tb,tb,tb,tb,tb,tb,tb,tb,tb,tb,tb,tb,tb,tb] [] 6 (by kernel_rfl) rfl (by exact⟨fun _=>rfl,trivial⟩) (ca h0 (ca (nf h1) (ca (nf h1) (ca h2 (ca (nf h1) (ca (nf h1) (ca (nf h3) (ca (df h4) (ca h5 (ca (nt h6) (ca (nt h6) (ca (nt h6) (ca (nt h6) (ca (nt h6) (ca (nt h6) (ca rt (ca rt (ca rt (ca rt (ca rt (ca rt (ca rt (ca rt (ca rt (ca rt na)))))))))))))))))))))))))
theorem icma_sum_4 {a1 a2:Int} {n3:Nat} {g4:Nat→Int} {a5:Int} {r6 r7 r8:Bool} (h0:S 226 [I a1] [] (B r6) []) (h1:r6=true) (h2:S 226 [I a2] [] (B r7) []) (h3:r7=true) (h4: ¬a1>a2) (h5:S 227 [.sl 0 n3,I a5] [ri n3 g4] (B r8) []) (h6:r8=true) (h7:(0:Int)≤0∧0<((n3:Nat):Int)) (h8:a1<(g4 0)):
  S 196 [I a1,I a2, .sl 0 n3,I a5] [ri n3 g4] (.tup [.agg [I 0,I 0], .ifc 267 (.agg [I 5])]) []:=
 SCall.path 46 [.call [] (B r6) [],fb,fb, .call [] (B r7) [],fb,fb,fb,fb, .draw 19 [] 0, .call [0] (B r8) [],fb,fb,fb,fb,fb,fb,tb,tb,tb,tb,tb,tb,tb,tb,tb,tb] [] 6 (by kernel_rfl) rfl (by exact⟨fun _=>rfl,trivial⟩) (ca h0 (ca (nf h1) (ca (nf h1) (ca h2 (ca (nf h1) (ca (nf h1) (ca (nf h3) (ca (df h4) (ca h5 (ca (nf h6) (ca (nf h6) (ca (nf h6) (ca h7 (ca (re n3) (ca (nf h6) (ca h7 (ca (nf h6) (ca (nf h6) (ca (dt h8) (ca (dt h8) (ca (dt h8) (ca (dt h8) (ca (dt h8) (ca (dt h8) (ca (dt h8) (ca (dt h8) (ca (dt h8) (ca rt na))))))))))))))))))))))))))))
theorem icma_sum_5 {a1 a2:Int} {n3:Nat} {g4:Nat→Int} {a5:Int} {r6 r7 r8:Bool} (h0:S 226 [I a1] [] (B r6) []) (h1:r6=true) (h2:S 226 [I a2] [] (B r7) []) (h3:r7=true) (h4: ¬a1>a2) (h5:S 227 [.sl 0 n3,I a5] [ri n3 g4] (B r8) []) (h6:r8=true) (h7:(0:Int)≤0∧0<((n3:Nat):Int)) (h8: ¬a1<(g4 0)) (h9:InR .i64 (((n3:Nat):Int)-1)) (h10:(0:Int)≤(((n3:Nat):Int)-1)∧(((n3:Nat):Int)-1)<((n3:Nat):Int)) (h11:a2>(g4 ((((n3:Nat):Int)-1).toNat))):
  S 196 [I a1,I a2, .sl 0 n3,I a5] [ri n3 g4] (.tup [.agg [I 0,I 0], .ifc 267 (.agg [I 5])]) []:=
 SCall.path 46 [.call [] (B r6) [],fb,fb, .call [] (B r7) [],fb,fb,fb,fb, .draw 19 [] 0, .call [0] (B r8) [],fb,fb,fb,fb,fb,fb,fb,fb,fb,fb,fb,fb,fb,fb,fb,tb] [] 6 (by kernel_rfl) rfl (by exact⟨fun _=>rfl,trivial⟩) (ca h0 (ca (nf h1) (ca (nf h1) (ca h2 (ca (nf h1) (ca (nf h1) (ca (nf h3) (ca (df h4) (ca h5 (ca (nf h6) (ca (nf h6) (ca (nf h6) (ca h7 (ca (re n3) (ca (nf h6) (ca h7 (ca (nf h6) (ca (nf h6) (ca (df h8) (ca (df h8) (ca (df h8) (ca (df h8) (ca (df h8) (ca h9 (ca (df h8) (ca h10 (ca (re n3) (ca (df h8) (ca h10 (ca (df h8) (ca (df h8) (ca (dt h11) na))))))))))))))))))))))))))))))))
noncomputable def icma_sum_h0 (n3:Nat) (g4:Nat→Int) (x1:Int) (x2:Int) (x3:Int) (x4:Int) (x5:Int) (x6:Int) (x7:Int):SC:=
 ⟨[⟨196,[none,none,none,none,some (.ptr 1 0),some (.ptr 2 0),none,some (.ptr 3 0),some (.ptr 4 0),some (.ptr 5 0),some (.ptr 6 0),none,none,none,none,none,none,none,none,none,none,none,none,none,none,none,none,none,none,none,none,none,none,none,none,none,none,none,none,none,none,none,none,none,none,none,none,none,none,none,none,none,none,none,none,none,none,none,none,none,none,some (.fn (.func 248) [] [.ptr 7 0]),none,none,none,none,none,none,none,none,none,none,none,none,none,none,none,none,none,none,none,none,none,none,none,none,none,none,none,none,none,none,none,none,none,none,none,none],[.code (bodyAt Tryz.f196 [1,1,1,0,1,0]), .inBlock 1, .code (bodyAt Tryz.f196 [1,1,1,1])],{}⟩],[ri n3 g4,some (.box true [I x1]),some (.box true [I x2]),some (.box true [I x3]),some (.box true [I x4,I x5]),some (.box true [.val .nilIface]),some (.box true [I x6,I x7]),some (.box true [.sl 0 n3])]⟩
theorem icma_sum_6 {X:Cx} {res:SV} {new:List (Option Vw)} {a1 a2:Int} {n3:Nat} {g4:Nat→Int} {a5:Int} {r6 r7 r8:Bool} (hX:Fi X 196 [ri n3 g4] res new) (h0:S 226 [I a1] [] (B r6) []) (h1:r6=true) (h2:S 226 [I a2] [] (B r7) []) (h3:r7=true) (h4: ¬a1>a2) (h5:S 227 [.sl 0 n3,I a5] [ri n3 g4] (B r8) []) (h6:r8=true) (h7:(0:Int)≤0∧0<((n3:Nat):Int)) (h8: ¬a1<(g4 0)) (h9:InR .i64 (((n3:Nat):Int)-1)) (h10:(0:Int)≤(((n3:Nat):Int)-1)∧(((n3:Nat):Int)-1)<((n3:Nat):Int)) (h11: ¬a2>(g4 ((((n3:Nat):Int)-1).toNat))) (k:Ok X (icma_sum_h0 n3 g4 a1 a2 a5 0 0 0 1)):
  Ok X (entry Tryz.prog 196 [I a1,I a2, .sl 0 n3,I a5] [ri n3 g4]):=
 Ok.cutM 64 [.call [] (B r6) [],fb,fb, .call [] (B r7) [],fb,fb,fb,fb, .draw 19 [] 0, .call [0] (B r8) [],fb,fb,fb,fb,fb,fb,fb,fb,fb,fb,fb,fb,fb,fb,fb,fb, .inl] [msk 98 [4,5,7,8,9,10,61]] [.old 0, .old 1, .old 2, .old 3, .old 4, .old 5, .old 6, .old 7] 1 hX.P hX.gl hX.n0 (by kernel_rfl) (by kernel_rfl) (by exact⟨fun _=>rfl,rfl,rfl,rfl,rfl,rfl,rfl,rfl,trivial⟩) (ca h0 (ca (nf h1) (ca (nf h1) (ca h2 (ca (nf h1) (ca (nf h1) (ca (nf h3) (ca (df h4) (ca h5 (ca (nf h6) (ca (nf h6) (ca (nf h6) (ca h7 (ca (re n3) (ca (nf h6) (ca h7 (ca (nf h6) (ca (nf h6) (ca (df h8) (ca (df h8) (ca (df h8) (ca (df h8) (ca (df h8) (ca h9 (ca (df h8) (ca h10 (ca (re n3) (ca (df h8) (ca h10 (ca (df h8) (ca (df h8) (ca (df h11) na)))))))))))))))))))))))))))))))) k
noncomputable def icma_sum_it_a (l_:Nat) (n3:Nat) (g4:Nat→Int):SC:=
 ⟨[⟨248,[some (.val (.func (.yield l_) #[] #[])),some (.ptr 7 0),some (.tup []),some (.tup []),some (.tup []),some (.tup []),some (.tup []),some (.tup []),some (.tup []),some (.tup []),some (.tup []),some (.tup []),some (.tup []),some (.tup []),some (.tup []),some (.tup []),some (.tup []),some (.tup []),some (.tup []),some (.tup []),some (.tup []),some (.tup []),some (.tup []),some (.tup []),some (.tup []),some (.tup []),some (.tup []),some (.tup []),some (.tup []),some (.tup []),some (.tup []),some (.tup []),some (.tup []),some (.tup [])],[.code (bodyAt Tryz.f248 [])],{}⟩],[ri n3 g4,none,none,none,none,none,none,some (.box false [.sl 0 n3])]⟩
noncomputable def icma_sum_it_h0 (l_:Nat) (n3:Nat) (g4:Nat→Int) (z1:Int):SC:=
 ⟨[⟨248,[some (.val (.func (.yield l_) #[] #[])),some (.ptr 7 0),none,some (I z1),none,none,none,none,none,none,none,none,none,none,none,none,none,none,none,none,none,none,none,none,none,none,none,none,none,none,none,none,none,none],[.code (bodyAt Tryz.f248 [1,0,0]), .inLoop (bodyAt Tryz.f248 [1,0,0]), .inBlock 0],{}⟩],[ri n3 g4,none,none,none,none,none,none,some (.box false [.sl 0 n3])]⟩
theorem icma_sum_it_0 {X:Cx} {l_ n3:Nat} {g4:Nat→Int} (hP:X.P=Tryz.prog) (hG:X.gl=GL) (hN:X.n0=8) (k:Ok X (icma_sum_it_h0 l_ n3 g4 1)):
  Ok X (icma_sum_it_a l_ n3 g4):=
 Ok.cutM 6 [] [msk 34 [0,1,3]] [.old 0, .old 1, .old 2, .old 3, .old 4, .old 5, .old 6, .old 7] 8 hP hG hN (by kernel_rfl) (by kernel_rfl) (by exact⟨fun _=>rfl,rfl,trivial⟩) na k
noncomputable def icma_sum_it_h1 (l_:Nat) (n3:Nat) (g4:Nat→Int) (z1:Int) (z2:Bool) (z3:Int) (z4:Int):SC:=
 ⟨[⟨248,[some (.val (.func (.yield l_) #[] #[])),some (.ptr 7 0),none,some (I z1),none,none,none,none,none,none,none,none,none,none,none,none,none,none,none,none,some (B z2),some (.val (.func (.yield l_) #[] #[])),none,none,none,none,some (I z3),none,none,none,some (I z4),none,none,none],[.inRegion (opsAt Tryz.f248 [1,0,0,1,0,0,0]) [21,22,23], .code (bodyAt Tryz.f248 [1,0,0,1,0,0,1]), .inBlock 1, .code (bodyAt Tryz.f248 [1,0,0,1,1]), .inLoop (bodyAt Tryz.f248 [1,0,0]), .inBlock 0],{}⟩],[ri n3 g4,none,none,none,none,none,none,some (.box false [.sl 0 n3])]⟩
theorem icma_sum_it_1 {X:Cx} {l_ n3:Nat} {g4:Nat→Int} {z1:Int} (hP:X.P=Tryz.prog) (hG:X.gl=GL) (hN:X.n0=8) (h0:z1<((n3:Nat):Int)) (h1:InR .i64 (z1-1)) (h2:(0:Int)≤(z1-1)∧(z1-1)<((n3:Nat):Int)) (h3:(0:Int)≤z1∧z1<((n3:Nat):Int)) (h4:(g4 ((z1-1).toNat))<(g4 z1.toNat)) (k:Ok X (icma_sum_it_h1 l_ n3 g4 z1 (decide ((g4 ((z1-1).toNat))<(g4 z1.toNat))) (g4 ((z1-1).toNat)) (g4 z1.toNat))):
  Ok X (icma_sum_it_h0 l_ n3 g4 z1):=
 Ok.cutM 14 [tb, .draw 21 [] 0,tb,tb,tb,tb,tb,tb,tb,tb,tb,tb] [msk 34 [0,1,3,20,21,26,30]] [.old 0, .old 1, .old 2, .old 3, .old 4, .old 5, .old 6, .old 7] 8 hP hG hN (by kernel_rfl) (by kernel_rfl) (by exact⟨fun _=>rfl,rfl,trivial⟩) (ca (dt h0) (ca h1 (ca h2 (ca (re n3) (ca h2 (ca h3 (ca (re n3) (ca h3 (ca (dt h4) (ca (dt h4) (ca (dt h4) (ca (dt h4) (ca h1 (ca (dt h4) (ca h2 (ca (re n3) (ca (dt h4) (ca h2 (ca (dt h4) (ca (dt h4) (ca (dt h4) (ca h3 (ca (re n3) (ca (dt h4) (ca h3 na))))))))))))))))))))))))) k
theorem icma_sum_it_2 {X:Cx} {l_ n3:Nat} {g4:Nat→Int} {z1:Int} (hP:X.P=Tryz.prog) (hG:X.gl=GL) (hN:X.n0=8) (h0:z1<((n3:Nat):Int)) (h1:InR .i64 (z1-1)) (h2:(0:Int)≤(z1-1)∧(z1-1)<((n3:Nat):Int)) (h3:(0:Int)≤z1∧z1<((n3:Nat):Int)) (h4: ¬(g4 ((z1-1).toNat))<(g4 z1.toNat)) (h5:InR .i64 (z1+1)) (k:Ok X (icma_sum_it_h0 l_ n3 g4 (z1+1))):
  Ok X (icma_sum_it_h0 l_ n3 g4 z1):=
 Ok.cutM 27 [tb, .draw 21 [] 0,fb,fb,fb,fb,fb,fb,fb,fb,fb,fb,fb,fb,fb,fb] [msk 34 [0,1,3]] [.old 0, .old 1, .old 2, .old 3, .old 4, .old 5, .old 6, .old 7] 8 hP hG hN (by kernel_rfl) (by kernel_rfl) (by exact⟨fun _=>rfl,rfl,trivial⟩) (ca (dt h0) (ca h1 (ca h2 (ca (re n3) (ca h2 (ca h3 (ca (re n3) (ca h3 (ca (df h4) (ca (df h4) (ca (df h4) (ca (df h4) (ca (df h4) (ca (df h4) (ca (df h4) (ca (df h4) (ca (df h4) (ca (df h4) (ca (df h4) (ca (df h4) (ca (df h4) (ca rf (ca h5 na))))))))))))))))))))))) k
noncomputable def icma_sum_it_h2 (n3:Nat) (g4:Nat→Int):SC:=
 ⟨[⟨248,[none,none,none,none,none,none,none,none,none,none,none,none,none,none,none,none,none,none,none,none,none,none,none,none,none,none,none,none,none,none,none,none,none,none],[],{}⟩],[ri n3 g4,none,none,none,none,none,none,some (.box false [.sl 0 n3])]⟩
theorem icma_sum_it_3 {X:Cx} {l_ n3:Nat} {g4:Nat→Int} {z1:Int} (hP:X.P=Tryz.prog) (hG:X.gl=GL) (hN:X.n0=8) (h0: ¬z1<((n3:Nat):Int)) (k:Ok X (icma_sum_it_h2 n3 g4)):
  Ok X (icma_sum_it_h0 l_ n3 g4 z1):=
 Ok.cutM 10 [fb] [msk 34 []] [.old 0, .old 1, .old 2, .old 3, .old 4, .old 5, .old 6, .old 7] 8 hP hG hN (by kernel_rfl) (by kernel_rfl) (by exact⟨fun _=>rfl,rfl,trivial⟩) (ca (df h0) na) k
noncomputable def icma_sum_it_b (l_:Nat) (n3:Nat) (g4:Nat→Int) (z1:Int) (z2:Bool):SC:=
 ⟨[⟨248,[some (.val (.func (.yield l_) #[] #[])),some (.ptr 7 0),none,some (I z1),none,none,none,none,none,none,none,none,none,none,none,none,none,none,none,none,some (B z2),none,none,none,none,none,none,none,none,none,none,some (B true),none,none],[.inRegion (opsAt Tryz.f248 [1,0,0,1,0,0,0]) [22,23], .code (bodyAt Tryz.f248 [1,0,0,1,0,0,1]), .inBlock 1, .code (bodyAt Tryz.f248 [1,0,0,1,1]), .inLoop (bodyAt Tryz.f248 [1,0,0]), .inBlock 0],{}⟩],[ri n3 g4,none,none,none,none,none,none,some (.box false [.sl 0 n3])]⟩
theorem icma_sum_it_4 {X:Cx} {l_ n3:Nat} {g4:Nat→Int} {z1:Int} {z2:Bool} (hP:X.P=Tryz.prog) (hG:X.gl=GL) (hN:X.n0=8) (h0:z2=true) (h1:InR .i64 (z1+1)) (k:Ok X (icma_sum_it_h0 l_ n3 g4 (z1+1))):
  Ok X (icma_sum_it_b l_ n3 g4 z1 z2):=
 Ok.cutM 12 [tb,tb,fb] [msk 34 [0,1,3]] [.old 0, .old 1, .old 2, .old 3, .old 4, .old 5, .old 6, .old 7] 8 hP hG hN (by kernel_rfl) (by kernel_rfl) (by exact⟨fun _=>rfl,rfl,trivial⟩) (ca h0 (ca h0 (ca rf (ca h1 na)))) k
noncomputable def icma_sum_rd_a (l_:Nat) (x1:Int) (x2:Int) (x3:Int) (x4:Int) (x5:Int) (x6:Int) (x7:Int) (y0_:Int) (y1_:Int):SC:=
 ⟨[⟨196,[none,none,none,none,some (.ptr 1 0),some (.ptr 2 0),none,some (.ptr 3 0),some (.ptr 4 0),some (.ptr 5 0),some (.ptr 6 0),none,none,none,none,none,none,none,none,none,none,none,none,none,none,none,none,none,none,none,none,none,none,none,none,none,none,none,none,none,none,none,none,none,none,none,none,none,none,none,none,none,none,none,none,none,none,none,none,none,none,none,some (I y0_),some (I y1_),none,none,none,none,none,none,none,none,none,none,none,none,none,none,none,none,none,none,none,none,none,none,none,none,none,none,none,none,none,none,none,none,none,none],[.code (bodyAt Tryz.f196 [1,1,1,0,1,0,0]), .beginRound, .code (bodyAt Tryz.f196 [1,1,1,0,1,0,1])],⟨some l_,[],false⟩⟩],[none,some (.box false [I x1]),some (.box false [I x2]),some (.box false [I x3]),some (.box false [I x4,I x5]),some (.box false [.val .nilIface]),some (.box false [I x6,I x7]),none]⟩
noncomputable def icma_sum_rd_h0 (l_:Nat) (x1:Int) (x2:Int) (x3:Int) (x4:Int) (x5:Int) (x6:Int) (x7:Int) (z1:Int) (z2:Int):SC:=
 ⟨[⟨196,[none,none,none,none,some (.ptr 1 0),some (.ptr 2 0),none,some (.ptr 3 0),some (.ptr 4 0),some (.ptr 5 0),some (.ptr 6 0),some (I z1),some (I z2),none,none,none,none,none,none,none,none,none,none,none,none,none,none,none,none,none,none,none,none,none,none,none,none,none,none,none,none,none,none,none,none,none,none,none,none,none,none,none,none,none,none,none,none,none,none,none,none,none,none,none,none,none,none,none,none,none,none,none,none,none,none,none,none,none,none,none,none,none,none,none,none,none,none,none,none,none,none,none,none,none,none,none,none,none],[.beginRound, .code (bodyAt Tryz.f196 [1,1,1,0,1,0,1])],⟨some l_,[],false⟩⟩],[none,some (.box false [I x1]),some (.box false [I x2]),some (.box false [I x3]),some (.box false [I x4,I x5]),some (.box false [.val .nilIface]),some (.box false [I x6,I x7]),none]⟩
theorem icma_sum_rd_0 {X:Cx} {l_:Nat} {x1 x2 x3 x4 x5 x6 x7 y0_ y1_:Int} (hP:X.P=Tryz.prog) (hG:X.gl=GL) (hN:X.n0=8) (k:Ok X (icma_sum_rd_h0 l_ x1 x2 x3 x4 x5 x6 x7 y0_ y1_)):
  Ok X (icma_sum_rd_a l_ x1 x2 x3 x4 x5 x6 x7 y0_ y1_):=
 Ok.cutM 7 [] [msk 98 [4,5,7,8,9,10,11,12]] [.old 0, .old 1, .old 2, .old 3, .old 4, .old 5, .old 6, .old 7] 8 hP hG hN (by kernel_rfl) (by kernel_rfl) (by exact⟨rfl,rfl,rfl,rfl,rfl,rfl,trivial⟩) na k
noncomputable def icma_sum_rd_b (l_:Nat) (x1:Int) (x2:Int) (x3:Int) (x4:Int) (x5:Int) (x6:Int) (x7:Int) (z1:Int) (z2:Int):SC:=
 ⟨[⟨196,[none,none,none,none,some (.ptr 1 0),some (.ptr 2 0),none,some (.ptr 3 0),some (.ptr 4 0),some (.ptr 5 0),some (.ptr 6 0),some (I z1),some (I z2),none,none,none,none,none,none,none,none,none,none,none,none,none,none,none,none,none,none,none,none,none,none,none,none,none,none,none,none,none,none,none,none,none,none,none,none,none,none,none,none,none,none,none,none,none,none,none,none,none,none,none,none,none,none,none,none,none,none,none,none,none,none,none,none,none,none,none,none,none,none,none,none,none,none,none,none,none,none,none,none,none,none,none,none,none],[.code (bodyAt Tryz.f196 [1,1,1,0,1,0,1])],⟨some l_,[],false⟩⟩],[none,some (.box false [I x1]),some (.box false [I x2]),some (.box false [I x3]),some (.box false [I x4,I x5]),some (.box false [.val .nilIface]),some (.box false [I x6,I x7]),none]⟩
noncomputable def icma_sum_rd_h1 (l_:Nat) (x1:Int) (x2:Int) (x3:Int) (x4:Int) (x5:Int) (x6:Int) (x7:Int) (z1:Int) (z2:Int) (z3:Int):SC:=
 ⟨[⟨196,[none,none,none,none,none,none,none,none,some (.ptr 4 0),some (.ptr 5 0),some (.ptr 6 0),none,none,none,none,none,none,none,none,none,none,none,none,none,none,none,none,none,none,none,none,none,none,none,none,none,none,none,none,none,none,none,none,none,none,none,none,none,none,none,none,none,none,none,none,none,none,none,none,none,none,none,none,none,none,none,none,none,none,none,none,none,none,none,none,none,none,none,none,none,none,none,none,none,none,none,none,some (.agg [I z1,I z2]),some (I z3),none,none,none,none,none,none,none,none,none],[.inRegion (opsAt Tryz.f196 [1,1,1,0,1,0,1,0,1,0,1,0]) [6,7], .code (bodyAt Tryz.f196 [1,1,1,0,1,0,1,0,1,1]), .inBlock 2],⟨some l_,[],false⟩⟩],[none,some (.box false [I x1]),some (.box false [I x2]),some (.box false [I x3]),some (.box false [I x4,I x5]),some (.box false [.val .nilIface]),some (.box false [I x6,I x7]),none]⟩
theorem icma_sum_rd_1 {X:Cx} {l_:Nat} {x1 x2 x3 x4 x5 x6 x7 z1 z2 r9001 r9002 r9003 r9004 r9005 r9006:Int} (hP:X.P=Tryz.prog) (hG:X.gl=GL) (hN:X.n0=8) (h0:InR .i64 ((if z2<x2 then z2 else x2)-(if x1<z1 then z1 else x1))) (h1:InR .i64 (z2-z1)) (h2:InR .i64 (x3*(z2-z1))) (h3:S 191 [I (if 0<((if z2<x2 then z2 else x2)-(if x1<z1 then z1 else x1))then((if z2<x2 then z2 else x2)-(if x1<z1 then z1 else x1))else 0),I (x3*(z2-z1))] [] (.tup [.agg [I r9001,I r9002],I r9003]) []) (h4:r9003=0) (h5:S 195 [.agg [I x6,I x7], .agg [I r9001,I r9002]] [] (.tup [.agg [I r9004,I r9005],I r9006]) []) (k:Ok X (icma_sum_rd_h1 l_ x1 x2 x3 x4 x5 x6 x7 r9004 r9005 r9006)):
  Ok X (icma_sum_rd_b l_ x1 x2 x3 x4 x5 x6 x7 z1 z2):=
 Ok.cutM 38 [.call [] (.tup [.agg [I r9001,I r9002],I r9003]) [],tb, .call [] (.tup [.agg [I r9004,I r9005],I r9006]) []] [msk 98 [8,9,10,87,88]] [.old 0, .old 1, .old 2, .old 3, .old 4, .old 5, .old 6, .old 7] 8 hP hG hN (by kernel_rfl) (by kernel_rfl) (by exact⟨rfl,rfl,rfl,rfl,rfl,rfl,trivial⟩) (ca h0 (ca h1 (ca h2 (ca h3 (ca (beq_iff_eq.2 h4) (ca h5 na)))))) k
noncomputable def icma_sum_rd_h3 (l_:Nat) (x1:Int) (x2:Int) (x3:Int) (x4:Int) (x5:Int) (x6:Int) (x7:Int):SC:=
 ⟨[⟨196,[none,none,none,none,none,none,none,none,some (.ptr 4 0),some (.ptr 5 0),none,none,none,none,none,none,none,none,none,none,none,none,none,none,none,none,none,none,none,none,none,none,none,none,none,none,none,none,none,none,none,none,none,none,none,none,none,none,none,none,none,none,none,none,none,none,none,none,none,none,none,none,none,none,none,none,none,none,none,none,none,none,none,none,none,none,none,none,none,none,none,none,none,none,none,none,none,none,none,none,none,none,none,none,none,none,none,none],[],⟨some l_,[],false⟩⟩],[none,some (.box false [I x1]),some (.box false [I x2]),some (.box false [I x3]),some (.box false [I x4,I x5]),some (.box false [.val .nilIface]),some (.box false [I x6,I x7]),none]⟩
noncomputable def icma_sum_rd_c0 (l_:Nat) (x1:Int) (x2:Int) (x3:Int) (x4:Int) (x5:Int) (x6:Int) (x7:Int) (z3:Int):SC:=
 ⟨[⟨196,[none,none,none,none,none,none,none,none,some (.ptr 4 0),some (.ptr 5 0),none,none,none,none,none,none,none,none,none,none,none,none,none,none,none,none,none,none,none,none,none,none,none,none,none,none,none,none,none,none,none,none,none,none,none,none,none,none,none,none,none,none,none,none,none,none,none,none,none,none,none,none,none,none,none,none,none,none,none,none,none,none,none,none,none,none,none,none,none,none,none,none,none,none,none,none,none,none,some (I z3),none,none,none,none,none,none,none,none,none],[.inRegion (opsAt Tryz.f196 [1,1,1,0,1,0,1,0,1,0,1,0]) [7], .code (bodyAt Tryz.f196 [1,1,1,0,1,0,1,0,1,1]), .inBlock 2],⟨some l_,[],false⟩⟩],[none,some (.box false [I x1]),some (.box false [I x2]),some (.box false [I x3]),some (.box false [I x4,I x5]),some (.box false [.val .nilIface]),some (.box false [I x6,I x7]),none]⟩
theorem icma_sum_rd_5 {X:Cx} {l_:Nat} {x1 x2 x3 x4 x5 x6 x7 z3:Int} (hP:X.P=Tryz.prog) (hG:X.gl=GL) (hN:X.n0=8) (h0:z3=0) (k:Ok X (icma_sum_rd_h3 l_ x1 x2 x3 x4 x5 x6 x7)):
  Ok X (icma_sum_rd_c0 l_ x1 x2 x3 x4 x5 x6 x7 z3):=
 Ok.cutM 10 [fb] [msk 98 [8,9]] [.old 0, .old 1, .old 2, .old 3, .old 4, .old 5, .old 6, .old 7] 8 hP hG hN (by kernel_rfl) (by kernel_rfl) (by exact⟨rfl,rfl,rfl,rfl,rfl,rfl,trivial⟩) (ca (bne_eq_false_iff_eq.2 h0) na) k
noncomputable def icma_sum_end_a (d_:Nat) (x4:Int) (x5:Int) (x6:Int) (x7:Int):SC:=
 ⟨[⟨196,[none,none,none,none,none,none,none,none,some (.ptr 4 0),some (.ptr 5 0),some (.ptr 6 0),none,none,none,none,none,none,none,none,none,none,none,none,none,none,none,none,none,none,none,none,none,none,none,none,none,none,none,none,none,none,none,none,none,none,none,none,none,none,none,none,none,none,none,none,none,none,none,none,none,none,none,none,none,none,none,none,none,none,none,none,none,none,none,none,none,none,none,none,none,none,none,none,none,none,none,none,none,none,none,none,none,none,none,none,none,none,none],[.inBlock 1, .code (bodyAt Tryz.f196 [1,1,1,1])],⟨none,[{target:= .collected d_,args:= #[]}],false⟩⟩],[none,none,none,none,some (.box false [I x4,I x5]),some (.box false [.val .nilIface]),some (.box false [I x6,I x7]),none]⟩
noncomputable def icma_sum_end_h0 (d_:Nat) (x4:Int) (x5:Int) (x6:Int) (x7:Int) (z1:Int) (z2:Int):SC:=
 ⟨[⟨196,[none,none,none,none,none,none,none,none,some (.ptr 4 0),some (.ptr 5 0),none,none,none,none,none,none,none,none,none,none,none,none,none,none,none,none,none,none,none,none,none,none,none,none,none,none,none,none,none,none,none,none,none,none,none,none,none,none,none,none,none,none,none,none,none,none,none,none,none,none,none,none,none,none,none,none,none,none,none,none,none,none,none,none,none,none,none,none,none,none,none,none,none,none,none,none,none,none,none,none,none,none,none,none,none,none,none,some (.agg [I z1,I z2])],[.inRegion (opsAt Tryz.f196 [1,1,1,1,0]) [1,2], .code (bodyAt Tryz.f196 [1,1,1,1,1])],⟨none,[{target:= .collected d_,args:= #[]}],false⟩⟩],[none,none,none,none,some (.box false [I x4,I x5]),some (.box false [.val .nilIface]),some (.box false [I x6,I x7]),none]⟩
theorem icma_sum_end_0 {X:Cx} {d_:Nat} {x4 x5 x6 x7:Int} (hP:X.P=Tryz.prog) (hG:X.gl=GL) (hN:X.n0=8) (k:Ok X (icma_sum_end_h0 d_ x4 x5 x6 x7 x6 x7)):
  Ok X (icma_sum_end_a d_ x4 x5 x6 x7):=
 Ok.cutM 4 [] [msk 98 [8,9,97]] [.old 0, .old 1, .old 2, .old 3, .old 4, .old 5, .old 6, .old 7] 8 hP hG hN (by kernel_rfl) (by kernel_rfl) (by exact⟨rfl,rfl,rfl,trivial⟩) na k
noncomputable def icma_sum_end_c0 (d_:Nat) (x4:Int) (x5:Int) (x6:Int) (x7:Int):SC:=
 ⟨[⟨196,[none,none,none,none,none,none,none,none,some (.ptr 4 0),some (.ptr 5 0),none,none,none,none,none,none,none,none,none,none,none,none,none,none,none,none,none,none,none,none,none,none,none,none,none,none,none,none,none,none,none,none,none,none,none,none,none,none,none,none,none,none,none,none,none,none,none,none,none,none,none,none,none,none,none,none,none,none,none,none,none,none,none,none,none,none,none,none,none,none,none,none,none,none,none,none,none,none,none,none,none,none,none,none,none,none,none,none],[.inRegion (opsAt Tryz.f196 [1,1,1,1,0]) [], .code (bodyAt Tryz.f196 [1,1,1,1,1])],⟨none,[{target:= .collected d_,args:= #[]}],false⟩⟩],[none,none,none,none,some (.box false [I x4,I x5]),some (.box false [.val .nilIface]),some (.box false [I x6,I x7]),none]⟩
noncomputable def icma_sum_end_h1 (d_:Nat) (x4:Int) (x5:Int) (x6:Int) (x7:Int):SC:=
 ⟨[⟨196,[none,none,none,none,none,none,none,none,some (.ptr 4 0),some (.ptr 5 0),none,none,none,none,none,none,none,none,none,none,none,none,none,none,none,none,none,none,none,none,none,none,none,none,none,none,none,none,none,none,none,none,none,none,none,none,none,none,none,none,none,none,none,none,none,none,none,none,none,none,none,none,none,none,none,none,none,none,none,none,none,none,none,none,none,none,none,none,none,none,none,none,none,none,none,none,none,none,none,none,none,none,none,none,none,none,none,none],[.code (bodyAt Tryz.f196 [1,1,1,1,1])],⟨none,[{target:= .collected d_,args:= #[]}],false⟩⟩],[none,none,none,none,some (.box false [I x4,I x5]),some (.box false [.val .nilIface]),some (.box false [I x6,I x7]),none]⟩
theorem icma_sum_end_1 {X:Cx} {d_:Nat} {x4 x5 x6 x7:Int} (hP:X.P=Tryz.prog) (hG:X.gl=GL) (hN:X.n0=8) (k:Ok X (icma_sum_end_h1 d_ x4 x5 x6 x7)):
  Ok X (icma_sum_end_c0 d_ x4 x5 x6 x7):=
 Ok.cutM 1 [] [msk 98 [8,9]] [.old 0, .old 1, .old 2, .old 3, .old 4, .old 5, .old 6, .old 7] 8 hP hG hN (by kernel_rfl) (by kernel_rfl) (by exact⟨rfl,rfl,rfl,trivial⟩) na k
def hpS (n:Nat) (g:Nat→Int) (a b f:Int) (q:Rat):List (Option Vw):=
 [some (.row false 3 n 1 (fun i=>[I (g i)])),some (.box true [I a]),some (.box true [I b]),some (.box true [I f]),some (.box true [I 0,I 0]),some (.box true [.val .nilIface]),some (.box true [I q.num,I (q.den:Int)]),some (.box true [.sl 0 n])]
def hpE (n:Nat) (g:Nat→Int) (a b f:Int) (q:Rat):List (Option Vw):=
 [some (.row false 3 n 1 (fun i=>[I (g i)])),some (.box true [I a]),some (.box true [I b]),some (.box true [I f]),some (.box true [I q.num,I (q.den:Int)]),some (.box true [.val .nilIface]),some (.box true [I q.num,I (q.den:Int)]),some (.box true [.sl 0 n])]
noncomputable def l0S:List (Option SV):=match (icma_sum_h0 0 (fun _=>0) 0 0 0 0 0 0 0).frs with
 |fr::_=>fr.tmps
 |[]=>[]
noncomputable def recS (T0:Array Value) (D:Nat) (st:LoopState):Loop:=
 {state:=st,pending:=none,fn:=196,tmps:=T0,params:= #[62,63],assign:=bodyAt Tryz.f196 [1,1,1,0,1,0,0],body:=bodyAt Tryz.f196 [1,1,1,0,1,0,1],defers:=D}
theorem it_claim {X:Cx} {n F:Nat} {g:Nat→Int} {a b:Int} {T0:Array Value} {D l:Nat} {θ0:Th} {cs:List Frame} {k2:List Item} (hP:X.P=Tryz.prog) (hG:X.gl=GL)
  (hf:1≤F) (hf2:F≤12) (hn:n≤1204) (hn2:2≤n) (hs: ∀ i,i<n-1→g i≤g (i+1)) (hd: ∀ i,i<n→1≤g i∧g i≤3652059) (ha:1≤a∧a≤3652059) (hb:1≤b∧b≤3652059)
  (hT0: ∀ θ',Same 8 θ0 θ'→TOk θ' l0S T0) (hl:X.base≤l) (hDl:D≠l)
  (hend: ∀ θ W,Same 8 θ0 θ→Mem X θ (hpS n g a b (F:Int) (psum a b F g (n-1))) W→W.heap[D]? =some (.deferred (some []))→ToEnd X (mkFr ⟨none,[{target:= .collected D,args:= #[]}],false⟩ 196 T0 k2) cs W):
  ∀ (m k:Nat) (θ:Th) (W:World),n-1-k=m→k≤n-1→Same 8 θ0 θ→Mem X θ (hpS n g a b (F:Int) (psum a b F g k)) W→W.heap[l]? =some (.loop (recS T0 D .ready))→W.heap[D]? =some (.deferred (some []))→
    Ok (X.seg θ 8 W (mkFr ⟨none,[{target:= .collected D,args:= #[]}],false⟩ 196 T0 (.inRangeFunc l::k2)::cs)) (icma_sum_it_h0 l n g ((k:Int)+1))
 |0,k,θ,W,hm,hk,hθ,hM,hL,hD=>by
  have:k=n-1:=by omega
  subst this
  refine icma_sum_it_3 hP hG rfl (by omega) ?_
  unfold icma_sum_it_h2
  refine seg_stop hM rfl (fun θ2 T w2 hM2 hs2 hb2 hT2=> ?_)
  have hL2:=kept hL hb2
  have hD2:=kept hD hb2
  refine ToEnd.iterEnd (F:=Tryz.f248) (.inl rfl) (by rw[hP];kernel_rfl) (by kernel_rfl) hL2 (by simp[recS]) rfl ?_
  exact hend θ2 _ (hθ.trans hs2) (hM2.putObj hL2 rfl hl) ((World.putObj_heap_other hDl).trans hD2)
 |m+1,k,θ,W,hm,hk,hθ,hM,hL,hD=>by
  have e1:(((k:Int)+1)-1).toNat=k:=by omega
  have e2:((k:Int)+1).toNat=k+1:=by omega
  have d1:=hd k (by omega)
  have d2:=hd (k+1) (by omega)
  have hle:=hs k (by omega)
  by_cases hlt:g k<g (k+1)
  ·refine icma_sum_it_1 hP hG rfl (by omega) (by simp only[InR];omega) (by omega) (by omega) (by rw[e1,e2];exact hlt) ?_
   rw[e1,e2]
   unfold icma_sum_it_h1
   refine seg_stop hM rfl (fun θ2 T2 w2 hM2 hs2 hb2 hT2=> ?_)
   have hL2:=kept hL hb2
   have hD2:=kept hD hb2
   have hθ2:=hθ.trans hs2
   have t2:=hT2 θ2 (Same.refl _ _)
   have h21:((opsAt Tryz.f248 [1,0,0,1,0,0,0])[21]?).map (fun o=>(o.op,o.guard,o.dst))=some (.call ⟨.value (.tmp 21), #[.tmp 26, .tmp 30], #[3,3]⟩,some (10,true),some 31):=by kernel_rfl
   rw[Option.map_eq_some_iff]at h21
   obtain⟨o,ho,ho2⟩:=h21
   simp only[Prod.mk.injEq]at ho2
   obtain⟨hop,hgd,hdst⟩:=ho2
   have hw:=wanted_some (ops:=opsAt Tryz.f248 [1,0,0,1,0,0,0]) (T:=T2) (t:=true) hgd (d:=20) (by kernel_rfl) ((t2.2 20 _ rfl).trans (by rw[decide_eq_true hlt];rfl))
   have hT2get: ∀ j v,T2[j]? =some v→(Act.mk T2 []).eval (.tmp j)=v:=fun j v hj=>by simp[Act.eval,Array.getD_eq_getD_getElem?,hj]
   have hst:=stepM_round (P:=X.P) (rx:={}) (fn:=248) (k:=[.code (bodyAt Tryz.f248 [1,0,0,1,0,0,1]), .inBlock 1, .code (bodyAt Tryz.f248 [1,0,0,1,1]), .inLoop (bodyAt Tryz.f248 [1,0,0]), .inBlock 0])
    (cs:=mkFr ⟨none,[{target:= .collected D,args:= #[]}],false⟩ 196 T0 (.inRangeFunc l::k2)::cs) (rest:=[22,23]) ho hw
    (run_callYield (P:=X.P) (w:=w2) (l:=l) (r:=recS T0 D .ready) (vs:= #[.int .i64 (g k), .int .i64 (g (k+1))]) hop (hT2get _ _ (t2.2 21 _ rfl))
     (by simp only[List.map_toArray,List.map_cons,List.map_nil];rw[hT2get _ _ (t2.2 26 _ rfl),hT2get _ _ (t2.2 30 _ rfl)];rfl) hL2 rfl)
   have hfold:(((recS T0 D .ready).params.zip #[Value.int .i64 (g k),Value.int .i64 (g (k+1))]).foldl (fun tmps (t,a)=>tmps.setIfInBounds t a) (recS T0 D .ready).tmps)=(T0.setIfInBounds 62 (.int .i64 (g k))).setIfInBounds 63 (.int .i64 (g (k+1))):=by simp[recS]
   rw[hfold]at hst
   refine ToEnd.head hst ?_
   have hT3: ∀ θ',Same 8 θ2 θ'→TOk θ' (setT (setT l0S (some 62) (I (g k))) (some 63) (I (g (k+1)))) ((((T0.setIfInBounds 62 (.int .i64 (g k))).setIfInBounds 63 (.int .i64 (g (k+1)))))):=fun θ' hs'=>
    ((hT0 θ' (hθ2.trans hs')).set (v:=I (g k)) (r:= .int .i64 (g k)) (d:=some 62) (ds:=[]) rfl).set (v:=I (g (k+1))) (r:= .int .i64 (g (k+1))) (d:=some 63) (ds:=[]) rfl
   have hgo:Ok (X.seg θ2 8 w2 (mkFr {} 248 T2 (.inRegion (opsAt Tryz.f248 [1,0,0,1,0,0,0]) [21,22,23]::[.code (bodyAt Tryz.f248 [1,0,0,1,0,0,1]), .inBlock 1, .code (bodyAt Tryz.f248 [1,0,0,1,1]), .inLoop (bodyAt Tryz.f248 [1,0,0]), .inBlock 0])::mkFr ⟨none,[{target:= .collected D,args:= #[]}],false⟩ 196 T0 (.inRangeFunc l::k2)::cs))
     (icma_sum_rd_a l a b (F:Int) 0 0 (psum a b F g k).num ((psum a b F g k).den:Int) (g k) (g (k+1))):=by
    refine icma_sum_rd_0 hP hG rfl ?_
    unfold icma_sum_rd_h0
    refine seg_stop hM2 rfl (fun θ3 T3 w3 hM3 hs3 hb3 hT3'=> ?_)
    have hL3:=kept hL2 hb3
    have hD3:=kept hD2 hb3
    have hθ3:=hθ2.trans hs3
    refine ToEnd.beginRound hL3 rfl ?_
    have hM4:=hM3.putObj (o':= .loop {recS T0 D .ready with state:= .busy}) hL3 rfl hl
    have hlt3:=(Array.getElem?_eq_some_iff.1 hL3).1
    have hL4:(w3.putObj l (.loop {recS T0 D .ready with state:= .busy})).heap[l]? =some (.loop {recS T0 D .ready with state:= .busy}):=World.putObj_heap_same hlt3
    have hD4:(w3.putObj l (.loop {recS T0 D .ready with state:= .busy})).heap[D]? =some (.deferred (some [])):=(World.putObj_heap_other hDl).trans hD3
    generalize w3.putObj l (.loop {recS T0 D .ready with state:= .busy})=w4 at*
    have hLb:F*(g (k+1)-g k).toNat≤12*3652058:=Nat.mul_le_mul hf2 (by omega)
    have hL0:F*(g (k+1)-g k).toNat≠0:=Nat.mul_ne_zero (by omega) (by omega)
    have hFL:(F:Int)*(g (k+1)-g k)=((F*(g (k+1)-g k).toNat:Nat):Int):=by
     rw[Int.natCast_mul];congr 1;omega
    have hnew:SCall Tryz.prog GL 191 [I (ov a b (g k) (g (k+1))),I ((F:Int)*(g (k+1)-g k))] [] (RQ (term a b F g k)) []:=by
     obtain⟨o',ho'⟩: ∃ o':Nat,ov a b (g k) (g (k+1))=(o':Int):=Int.eq_ofNat_of_zero_le (ov_nn _ _ _ _)
     have hol:=ov_le (a:=a) (b:=b) (Int.le_of_lt hlt)
     have h1:= @r_NewQ _ o' _ hL0 (by omega) (by omega)
     rw[hFL]
     unfold term
     rw[if_pos hlt,ho']
     exact h1
    have hadd:=psum_stepP hf hf2 hn hs hd a b (k:=k) (by omega)
    have hbody:Ok (X.seg θ3 8 w4 (mkFr {} 248 T2 (.inRegion (opsAt Tryz.f248 [1,0,0,1,0,0,0]) [21,22,23]::[.code (bodyAt Tryz.f248 [1,0,0,1,0,0,1]), .inBlock 1, .code (bodyAt Tryz.f248 [1,0,0,1,1]), .inLoop (bodyAt Tryz.f248 [1,0,0]), .inBlock 0])::mkFr ⟨none,[{target:= .collected D,args:= #[]}],false⟩ 196 T0 (.inRangeFunc l::k2)::cs))
      (icma_sum_rd_b l a b (F:Int) 0 0 (psum a b F g k).num ((psum a b F g k).den:Int) (g k) (g (k+1))):=by
     refine icma_sum_rd_1 hP hG rfl (by simp only[InR];split<;>split<;>omega) (by simp only[InR];omega) (by rw[hFL];simp only[InR];omega) hnew rfl hadd ?_
     unfold icma_sum_rd_h1
     refine seg_stop hM4 rfl (fun θ5 T5 w5 hM5 hs5 hb5 hT5=> ?_)
     have hL5:=kept hL4 hb5
     have hD5:=kept hD4 hb5
     have hθ5:=hθ3.trans hs5
     have h6:((opsAt Tryz.f196 [1,1,1,0,1,0,1,0,1,0,1,0])[6]?).map (fun o=>(o.op,o.guard,o.dst))=some (.store 121 (.tmp 10) (.tmp 87),none,none):=by kernel_rfl
     rw[Option.map_eq_some_iff]at h6
     obtain⟨o6,ho6,ho6'⟩:=h6
     simp only[Prod.mk.injEq]at ho6'
     refine ToEnd.store hM5 hT5 ho6 ho6'.2.1 ho6'.2.2 ho6'.1 rfl rfl (t:=6) (j:=0) rfl (by rw[hP];kernel_rfl) rfl rfl (by simp[cellsS]) rfl (fun w6 hM6 hk6=> ?_)
     have hL6:=hk6 l _ hL5 rfl
     have hD6:=hk6 D _ hD5 rfl
     have hM6':Mem X θ5 (hpS n g a b (F:Int) (psum a b F g (k+1))) w6:=hM6
     have hrest:Ok (X.seg θ5 8 w6 (mkFr {} 248 T2 (.inRegion (opsAt Tryz.f248 [1,0,0,1,0,0,0]) [21,22,23]::[.code (bodyAt Tryz.f248 [1,0,0,1,0,0,1]), .inBlock 1, .code (bodyAt Tryz.f248 [1,0,0,1,1]), .inLoop (bodyAt Tryz.f248 [1,0,0]), .inBlock 0])::mkFr ⟨none,[{target:= .collected D,args:= #[]}],false⟩ 196 T0 (.inRangeFunc l::k2)::cs))
       (icma_sum_rd_c0 l a b (F:Int) 0 0 (psum a b F g (k+1)).num ((psum a b F g (k+1)).den:Int) 0):=by
      refine icma_sum_rd_5 hP hG rfl rfl ?_
      unfold icma_sum_rd_h3
      refine seg_stop hM6' rfl (fun θ7 T7 w7 hM7 hs7 hb7 hT7=> ?_)
      have hL7:=kept hL6 hb7
      have hD7:=kept hD6 hb7
      have hθ7:=hθ5.trans hs7
      refine ToEnd.endRound hL7 ho ?_
      have hlt7:=(Array.getElem?_eq_some_iff.1 hL7).1
      have hM8:=hM7.putObj (o':= .loop (recS T0 D .ready)) hL7 rfl hl
      have hL8:(w7.putObj l (.loop (recS T0 D .ready))).heap[l]? =some (.loop (recS T0 D .ready)):=World.putObj_heap_same hlt7
      have hD8:(w7.putObj l (.loop (recS T0 D .ready))).heap[D]? =some (.deferred (some [])):=(World.putObj_heap_other hDl).trans hD7
      have hit:Ok (X.seg θ7 8 (w7.putObj l (.loop (recS T0 D .ready))) (mkFr ⟨none,[{target:= .collected D,args:= #[]}],false⟩ 196 T0 (.inRangeFunc l::k2)::cs)) (icma_sum_it_b l n g ((k:Int)+1) true):=by
       refine icma_sum_it_4 hP hG rfl rfl (by simp only[InR];omega) ?_
       have:=it_claim hP hG hf hf2 hn hn2 hs hd ha hb hT0 hl hDl hend m (k+1) θ7 _ (by omega) (by omega) hθ7 hM8 hL8 hD8
       rwa [show(((k+1:Nat)):Int)=(k:Int)+1 by omega]at this
      unfold icma_sum_it_b at hit
      have hT2': ∀ θ',Same 8 θ7 θ'→TOk θ' _ (((Act.mk T2 []).put o.dst (.bool true)).tmps):=fun θ' hs'=>
       (hT2 θ' (hs3.trans (hs5.trans (hs7.trans hs')))).set (v:=B true) (r:= .bool true) (d:=o.dst) (ds:=[]) rfl
      refine seg_start hM8 ?_ (fun θ' hs'=>(hT2' θ' hs').sub ?_) hit
      ·simp[roOf,hpS,Vw.ro]
      ·rw[hdst];simp[setT,subT,hlt]
     unfold icma_sum_rd_c0 at hrest
     refine seg_start hM6' ?_ (fun θ' hs'=>(hT5 θ' hs').sub ?_) hrest
     ·simp[roOf,hpS,Vw.ro]
     ·simp[subT]
    unfold icma_sum_rd_b at hbody
    refine seg_start hM4 ?_ (fun θ' hs'=>(hT3' θ' hs').sub ?_) hbody
    ·simp[roOf,hpS,Vw.ro]
    ·simp[subT]
   unfold icma_sum_rd_a at hgo
   refine seg_start hM2 ?_ (fun θ' hs'=>(hT3 θ' hs').sub ?_) hgo
   ·simp[roOf,hpS,Vw.ro]
   ·unfold l0S icma_sum_h0
    simp[setT,subT]
  ·refine icma_sum_it_2 hP hG rfl (by omega) (by simp only[InR];omega) (by omega) (by omega) (by rw[e1,e2];exact hlt) (by simp only[InR];omega) ?_
   have hq:psum a b F g (k+1)=psum a b F g k:=by
    show psum a b F g k+term a b F g k=_
    unfold term;rw[if_neg hlt,Rat.add_zero]
   have:=it_claim hP hG hf hf2 hn hn2 hs hd ha hb hT0 hl hDl hend m (k+1) θ W (by omega) (by omega) hθ (by rw[hq];exact hM) hL hD
   rwa [show(((k+1:Nat)):Int)=(k:Int)+1 by omega]at this
theorem isum {n:Nat} {g:Nat→Int} {a b f:Int} (hda:isDay a=true) (hdb:isDay b=true) (hab: ¬a>b) (hm:mayB n g f=true) (h0: ¬a<g 0) (h1: ¬b>g (n-1)):
  SCall Tryz.prog GL 196 [I a,I b, .sl 0 n,I f] [some (.row false 3 n 1 (fun i=>[I (g i)]))] (.tup [QV (psum a b f.toNat g (n-1)), .val .nilIface]) []:=by
 obtain⟨m1,m2,m3,m4,m5,m6,m7⟩:=may_facts hm
 obtain⟨F,rfl⟩: ∃ F:Nat,f=(F:Int):=Int.eq_ofNat_of_zero_le (by omega)
 rw[Int.toNat_natCast]
 have e:(((n:Nat):Int)-1).toNat=n-1:=by omega
 refine SCall.of (by kernel_rfl) rfl ⟨fun i=>rfl,trivial⟩ rfl (fun X hX=> ?_)
 refine icma_sum_6 hX (iday a) hda (iday b) hdb hab imay hm (by omega) h0 (by simp only[InR];omega) (by omega) (by rw[e];exact h1) ?_
 unfold isDay at hda hdb
 rw[decide_eq_true_eq]at hda hdb
 intro θ fr ms w hh
 have hM0:Mem X θ (hpS n g a b (F:Int) 0) w:=hh.mem
 unfold icma_sum_h0 at hh
 obtain⟨T,rfl,hpre,hrest⟩:=hh.pre
 have hms:ms=[]:=by cases hrest θ (Same.refl _ _);rfl
 subst hms
 show ToEnd X _ X.cs w
 have hT: ∀ θ',Same 8 θ θ'→TOk θ' l0S T:=fun θ' hs'=>(hpre.inv θ' hs').2
 have hrf:bodyAt Tryz.f196 [1,1,1,0,1,0]= .rangeFunc (.tmp 61) #[62,63] (bodyAt Tryz.f196 [1,1,1,0,1,0,0]) (bodyAt Tryz.f196 [1,1,1,0,1,0,1]):=by kernel_rfl
 rw[hrf]
 have hg61:(Act.mk T []).eval (.tmp 61)= .func (.func 248) #[] #[den θ (.ptr 7 0)]:=by
  have:=(hT θ (Same.refl _ _)).2 61 (.fn (.func 248) [] [.ptr 7 0]) rfl
  simp[Act.eval,Array.getD_eq_getD_getElem?,this,den,denL]
 refine ToEnd.rangeFunc (F:=Tryz.f248) (b:=bodyAt Tryz.f248 []) hg61 (by rw[hX.P];kernel_rfl) (by kernel_rfl) (by kernel_rfl) ?_
 have hM1:=(hM0.alloc (.deferred (some []))).alloc (.loop {state:= .ready,pending:=none,fn:=196,tmps:=T,params:= #[62,63],assign:=bodyAt Tryz.f196 [1,1,1,0,1,0,0],body:=bodyAt Tryz.f196 [1,1,1,0,1,0,1],defers:=w.heap.size})
 have hL1:((w.alloc (.deferred (some []))).alloc (.loop (recS T w.heap.size .ready))).heap[w.heap.size+1]? =some (.loop (recS T w.heap.size .ready)):=by
  have:=World.alloc_heap_new (w.alloc (.deferred (some []))) (.loop (recS T w.heap.size .ready));rwa [World.size_alloc]at this
 have hD1:((w.alloc (.deferred (some []))).alloc (.loop (recS T w.heap.size .ready))).heap[w.heap.size]? =some (.deferred (some [])):=by
  exact(Go.RowKit.Below.heap_alloc _ _ _ (by simp)).trans (World.alloc_heap_new w _)
 have hbase:=hM0.sz
 have hend: ∀ θ2 W,Same 8 θ θ2→Mem X θ2 (hpS n g a b (F:Int) (psum a b F g (n-1))) W→W.heap[w.heap.size]? =some (.deferred (some []))→
   ToEnd X (mkFr ⟨none,[{target:= .collected w.heap.size,args:= #[]}],false⟩ 196 T [.inBlock 1, .code (bodyAt Tryz.f196 [1,1,1,1])]) X.cs W:=by
  intro θ2 W hs2 hM2 hD2
  have hgo:Ok (X.seg θ2 8 W X.cs) (icma_sum_end_a w.heap.size 0 0 (psum a b F g (n-1)).num ((psum a b F g (n-1)).den:Int)):=by
   refine icma_sum_end_0 hX.P hX.gl rfl ?_
   unfold icma_sum_end_h0
   refine seg_stop hM2 rfl (fun θ3 T3 w3 hM3 hs3 hb3 hT3=> ?_)
   have hD3:=kept hD2 hb3
   have h1:((opsAt Tryz.f196 [1,1,1,1,0])[1]?).map (fun o=>(o.op,o.guard,o.dst))=some (.store 121 (.tmp 8) (.tmp 97),none,none):=by kernel_rfl
   rw[Option.map_eq_some_iff]at h1
   obtain⟨o1,ho1,ho1'⟩:=h1
   simp only[Prod.mk.injEq]at ho1'
   refine ToEnd.store hM3 hT3 ho1 ho1'.2.1 ho1'.2.2 ho1'.1 rfl rfl (t:=4) (j:=0) rfl (by rw[hX.P];kernel_rfl) rfl rfl (by simp[cellsS]) rfl (fun w4 hM4 hk4=> ?_)
   have hD4:=hk4 _ _ hD3 rfl
   have hM4':Mem X θ3 (hpE n g a b (F:Int) (psum a b F g (n-1))) w4:=hM4
   have h2:((opsAt Tryz.f196 [1,1,1,1,0])[2]?).map (fun o=>(o.op,o.guard,o.dst))=some (.store 209 (.tmp 9) (.const .nilIface),none,none):=by kernel_rfl
   rw[Option.map_eq_some_iff]at h2
   obtain⟨o2,ho2,ho2'⟩:=h2
   simp only[Prod.mk.injEq]at ho2'
   refine ToEnd.store hM4' hT3 ho2 ho2'.2.1 ho2'.2.2 ho2'.1 rfl rfl (t:=5) (j:=0) rfl (by rw[hX.P];kernel_rfl) rfl rfl (by simp[cellsS]) rfl (fun w5 hM5 hk5=> ?_)
   have hD5:=hk5 _ _ hD4 rfl
   have hM5':Mem X θ3 (hpE n g a b (F:Int) (psum a b F g (n-1))) w5:=hM5
   have hlast:Ok (X.seg θ3 8 w5 X.cs) (icma_sum_end_c0 w.heap.size (psum a b F g (n-1)).num ((psum a b F g (n-1)).den:Int) (psum a b F g (n-1)).num ((psum a b F g (n-1)).den:Int)):=by
    refine icma_sum_end_1 hX.P hX.gl rfl ?_
    unfold icma_sum_end_h1
    refine seg_stop hM5' rfl (fun θ6 T6 w6 hM6 hs6 hb6 hT6=> ?_)
    have hD6:=kept hD5 hb6
    have hM7:=hM6.putObj (o':= .deferred none) hD6 rfl hbase
    have hbel:Go.RowKit.Below X.base X.w0 (w6.putObj w.heap.size (.deferred none)):=hM7.bel
    refine ToEnd.leave (v:=den θ6 (.tup [QV (psum a b F g (n-1)), .val .nilIface])) (.inr ⟨_,rfl⟩) hD6 hX.ce hX.f0.symm ⟨Tryz.f196,by rw[hX.P];kernel_rfl, ?_⟩ (hX.R _ _ hbel ⟨fun _=>⟨none,0,0⟩,fun θ' hs' _=>⟨rfl, ?_⟩⟩)
    ·rw[hX.P]
     exact results_run (P:=Tryz.prog) (gl:=GL) (fn:=Tryz.f196) (vs:=[QV (psum a b F g (n-1)), .val .nilIface]) (hM7.hp (Same.refl _ _)) (by rw[←hX.gl];exact hM7.gok) (hT6 θ6 (Same.refl _ _)) (by kernel_rfl)
    ·have hi:=hX.init θ' hs'
     have hbw:Go.RowKit.Below X.w0.heap.size X.w0 (w6.putObj w.heap.size (.deferred none)):=by rw[←hX.base];exact hbel
     exact hi.below hbw
   unfold icma_sum_end_c0 at hlast
   refine seg_start hM5' ?_ (fun θ' hs'=>(hT3 θ' hs').sub ?_) hlast
   ·simp[roOf,hpE,Vw.ro]
   ·simp[subT]
  unfold icma_sum_end_a at hgo
  refine seg_start hM2 ?_ (fun θ' hs'=>(hT θ' (hs2.trans hs')).sub ?_) hgo
  ·simp[roOf,hpS,Vw.ro]
  ·unfold l0S icma_sum_h0
   simp[subT]
 have hit:=it_claim (k2:=[.inBlock 1, .code (bodyAt Tryz.f196 [1,1,1,1])]) hX.P hX.gl (by omega) (by omega) m2 m1 m6 m5 hda hdb hT (Nat.le_succ_of_le hbase) (by omega) hend (n-1) 0 θ _ (by omega) (by omega) (Same.refl _ _) hM1 hL1 hD1
 have hita:=icma_sum_it_0 (X:=X.seg θ 8 ((w.alloc (.deferred (some []))).alloc (.loop (recS T w.heap.size .ready))) (mkFr ⟨none,[{target:= .collected w.heap.size,args:= #[]}],false⟩ 196 T (.inRangeFunc (w.heap.size+1)::[.inBlock 1, .code (bodyAt Tryz.f196 [1,1,1,1])])::X.cs)) hX.P hX.gl rfl hit
 unfold icma_sum_it_a at hita
 refine seg_start hM1 ?_ (fun θ' hs'=> ?_) hita
 ·simp[roOf,hpS,Vw.ro]
 ·have h:=TOk.enter (θ:=θ') (args:=[.val (.func (.yield (w.heap.size+1)) #[] #[]), .ptr 7 0]) (vals:= #[.func (.yield (w.heap.size+1)) #[] #[]]++ #[den θ (.ptr 7 0)]) (k:=Tryz.f248.ntmps-2) (by
   simp only[denL,den]
   rw[hs' 7 (by show 7<8;omega)]
   rfl)
  exact h
end Go.Proofs.YtelidogcomffkaaGreatDoor
