import Derived.Test.YtgojmodiaffcbaaGreatDoorAct
import Derived.Test.YtgojmodiaffcbaaGreatDoorIcm
import Derived.Test.YtgojmodiaffcbaaGreatDoorProg
import Derived.KernelRfl
import Derived.Laws.Externs
set_option linter.unusedVariables false
set_option linter.unusedSimpArgs false
set_option linter.unusedSectionVars false
namespace Go.Proofs.YtgojmodiaffcbaaGreatDoor
open Go Go.Sx
variable [Env]
def ov (a b lo hi:Int):Int:=if 0<((if hi<b then hi else b)-(if a<lo then lo else a))then((if hi<b then hi else b)-(if a<lo then lo else a))else 0
def term (a b:Int) (f:Nat) (g:Nat→Int) (k:Nat):Rat:=if g k<g (k+1)then mkRat (ov a b (g k) (g (k+1))) (f*(g (k+1)-g k).toNat)else 0
def psum (a b:Int) (f:Nat) (g:Nat→Int):Nat→Rat
 |0=>0
 |k+1=>psum a b f g k+term a b f g k
theorem ov_nn (a b lo hi:Int):0≤ov a b lo hi:=by unfold ov;split<;>omega
theorem ov_le {a b lo hi:Int} (h:lo≤hi):ov a b lo hi≤hi-lo:=by unfold ov;split<;>(try split at*)<;>(try split at*)<;>omega
theorem mono_le {n:Nat} {g:Nat→Int} (hs: ∀ i,i<n-1→g i≤g (i+1)) {i j:Nat} (h:i≤j) (hj:j≤n-1):g i≤g j:=by
 induction j with
 |zero=>have:i=0:=by omega
        subst this;omega
 |succ j ih=>
  by_cases h1:i=j+1
  ·subst h1;omega
  ·have:=ih (by omega) (by omega)
   have:=hs j (by omega)
   omega
theorem inside_len {n:Nat} {g:Nat→Int} (hs: ∀ i,i<n-1→g i≤g (i+1)) (hd: ∀ i,i<n→1≤g i∧g i≤3652059) (a:Int):
  ∃ L:Nat,1≤L∧L≤3652058∧ ∀ k,k<n-1→g k<a→a<g (k+1)→(g (k+1)-g k).toNat=L:=by
 by_cases h: ∃ k,k<n-1∧g k<a∧a<g (k+1)
 ·obtain⟨k,h1,h2,h3⟩:=h
  have d1:=hd k (by omega)
  have d2:=hd (k+1) (by omega)
  refine⟨(g (k+1)-g k).toNat,by omega,by omega,fun j h4 h5 h6=> ?_⟩
  rcases Nat.lt_trichotomy j k with hj|hj|hj
  ·have:=mono_le hs (i:=j+1) (j:=k) (by omega) (by omega);omega
  ·rw[hj]
  ·have:=mono_le hs (i:=k+1) (j:=j) (by omega) (by omega);omega
 ·exact⟨1,by omega,by omega,fun k h1 h2 h3=>absurd ⟨k,h1,h2,h3⟩ h⟩
theorem one_den {n:Nat} {g:Nat→Int} {f:Nat} (hf:1≤f) (hf2:f≤12) (hs: ∀ i,i<n-1→g i≤g (i+1)) (hd: ∀ i,i<n→1≤g i∧g i≤3652059) (a b:Int):
  ∃ M:Nat,M≠0∧M≤160050331624368∧ ∀ k,k<n-1→ ∃ c:Nat,c≤M∧term a b f g k=mkRat (c:Int) M:=by
 obtain⟨La,a1,a2,a3⟩:=inside_len hs hd a
 obtain⟨Lb,b1,b2,b3⟩:=inside_len hs hd b
 have hM:f*La*Lb≤12*3652058*3652058:=Nat.mul_le_mul (Nat.mul_le_mul hf2 a2) b2
 have hM0:f*La*Lb≠0:=Nat.mul_ne_zero (Nat.mul_ne_zero (by omega) (by omega)) (by omega)
 refine⟨f*La*Lb,hM0,by omega,fun k hk=> ?_⟩
 unfold term
 by_cases hlt:g k<g (k+1)
 ·rw[if_pos hlt]
  obtain⟨o,ho⟩: ∃ o:Nat,ov a b (g k) (g (k+1))=(o:Int):=Int.eq_ofNat_of_zero_le (ov_nn _ _ _ _)
  have hle:=ov_le (a:=a) (b:=b) (Int.le_of_lt hlt)
  obtain⟨L,hL⟩: ∃ L:Nat,(g (k+1)-g k).toNat=L:=⟨_,rfl⟩
  have hol:o≤L:=by omega
  have hL0:L≠0:=by omega
  rw[ho,hL]
  by_cases ho0:o=0
  ·subst ho0
   exact⟨0,Nat.zero_le _,by rw[Int.natCast_zero,Rat.zero_mkRat,Rat.zero_mkRat]⟩
  by_cases hina:g k<a∧a<g (k+1)
  ·have e:=a3 k hk hina.1 hina.2
   rw[hL]at e
   subst e
   refine⟨o*Lb, ?_, ?_⟩
   ·exact Nat.mul_le_mul_right _ (Nat.le_trans hol (Nat.le_mul_of_pos_left _ (by omega)))
   ·rw[Int.natCast_mul,Rat.mkRat_mul_right (by omega)]
  ·by_cases hinb:g k<b∧b<g (k+1)
   ·have e:=b3 k hk hinb.1 hinb.2
    rw[hL]at e
    subst e
    refine⟨o*La, ?_, ?_⟩
    ·rw[Nat.mul_right_comm]
     exact Nat.mul_le_mul_right _ (Nat.le_trans hol (Nat.le_mul_of_pos_left _ (by omega)))
    ·rw[Nat.mul_right_comm f La L,Int.natCast_mul,Rat.mkRat_mul_right (by omega)]
   ·have hoL:o=L:=by
     unfold ov at ho
     split at ho
     ·(try split at ho)<;>(try split at ho)<;>omega
     ·omega
    refine⟨La*Lb, ?_, ?_⟩
    ·rw[Nat.mul_assoc];exact Nat.le_mul_of_pos_left _ (by omega)
    ·rw[hoL,Rat.mkRat_eq_iff (Nat.mul_ne_zero (by omega) hL0) hM0]
     rw[←Int.natCast_mul,←Int.natCast_mul]
     congr 1
     rw[Nat.mul_assoc f,Nat.mul_left_comm,Nat.mul_comm L,←Nat.mul_assoc,Nat.mul_comm f,Nat.mul_assoc]
 ·rw[if_neg hlt]
  exact⟨0,Nat.zero_le _,by rw[Int.natCast_zero,Rat.zero_mkRat]⟩
theorem psum_den {n:Nat} {g:Nat→Int} {f M:Nat} {a b:Int} (hM:M≠0) (h: ∀ k,k<n-1→ ∃ c:Nat,c≤M∧term a b f g k=mkRat (c:Int) M):
  ∀ k,k≤n-1→ ∃ C:Nat,C≤k*M∧psum a b f g k=mkRat (C:Int) M
 |0,_=>⟨0,by omega,by rw[Int.natCast_zero,Rat.zero_mkRat];rfl⟩
 |k+1,hk=>by
  obtain⟨C,h1,h2⟩:=psum_den hM h k (by omega)
  obtain⟨c,h3,h4⟩:=h k (by omega)
  refine⟨C+c,by rw[Nat.add_mul];omega, ?_⟩
  show psum a b f g k+term a b f g k=_
  rw[h2,h4,mkRat_add_same C c hM]
theorem psum_step {n:Nat} {g:Nat→Int} {f:Nat} (hf:1≤f) (hf2:f≤12) (hn:n≤1204) (hs: ∀ i,i<n-1→g i≤g (i+1)) (hd: ∀ i,i<n→1≤g i∧g i≤3652059) (a b:Int) {k:Nat} (hk:k<n-1):
  SCall Tryz.prog GL 152 [QV (psum a b f g k),QV (term a b f g k)] [] (RQ (psum a b f g (k+1))) []∧
  SCall Tryz.prog GL 18 [QV (psum a b f g k),QV (term a b f g k)] [] (RQ (psum a b f g (k+1))) []:=by
 obtain⟨M,h1,h2,h3⟩:=one_den hf hf2 hs hd a b
 obtain⟨C,h4,h5⟩:=psum_den h1 h3 k (by omega)
 obtain⟨c,h6,h7⟩:=h3 k hk
 have hkM:k*M≤1203*160050331624368:=Nat.mul_le_mul (by omega) h2
 have e:psum a b f g (k+1)=mkRat ((C+c:Nat):Int) M:=by
  show psum a b f g k+term a b f g k=_
  rw[h5,h7,mkRat_add_same C c h1]
 rw[e,h5,h7]
 exact⟨r_AddQ h1 (by omega) (by omega),ref_AddQ h1 (by omega) (by omega)⟩
end Go.Proofs.YtgojmodiaffcbaaGreatDoor
set_option linter.unusedVariables false
set_option linter.unusedSimpArgs false
set_option linter.unusedSectionVars false
set_option maxRecDepth 100000
namespace Go.Proofs.YtgojmodiaffcbaaGreatDoor
open Go Go.Sx
variable [Env]
def partR (a b:Int) (n:Nat) (g:Nat→Int) (f:Int):Int×Int×Int:=
 if isDay a=false∨isDay b=false then(0,0,3)else if a>b then(0,0,4)else if mayB n g f=false∨a<g 0∨b>g (n-1)then(0,0,5)
 else((psum a b f.toNat g (n-1)).num,((psum a b f.toNat g (n-1)).den:Int),0)
theorem may_facts {n:Nat} {g:Nat→Int} {f:Int} (h:mayB n g f=true):2≤n∧n≤1204∧1≤f∧f≤12∧(∀ i,i<n→1≤g i∧g i≤3652059)∧(∀ i,i<n-1→g i≤g (i+1))∧g 0<g (n-1):=by
 unfold mayB at h
 rw[decide_eq_true_eq]at h
 obtain⟨h1,h2,h3,h4,h5,h6,h7⟩:=h
 refine⟨h1,h2,h3,h4,fun i hi=> ?_,h6,h7⟩
 have:=h5 i hi
 unfold isDay at this
 rwa [decide_eq_true_eq]at this
theorem demurrageref09_Part_0 {a1 a2:Int} {n3:Nat} {g4:Nat→Int} {a5:Int} {r6 r7:Bool} (h0:S 35 [I a1] [] (B r6) []) (h1:S 35 [I a2] [] (B r7) []) (h2:r6=false):
  S 54 [I a1,I a2, .sl 0 n3,I a5] [ri n3 g4] (.tup [.agg [I 0,I 0],I 3]) []:=
 SCall.path 34 [.call [] (B r6) [], .call [] (B r7) [],tb,tb,tb,tb] [] 2 (by kernel_rfl) rfl (by exact⟨fun _=>rfl,trivial⟩) (ca h0 (ca h1 (ca (nt h2) (ca (nt h2) (ca (nt h2) (ca rt na))))))
theorem demurrageref09_Part_1 {a1 a2:Int} {n3:Nat} {g4:Nat→Int} {a5:Int} {r6 r7:Bool} (h0:S 35 [I a1] [] (B r6) []) (h1:S 35 [I a2] [] (B r7) []) (h2:r6=true) (h3:r7=false):
  S 54 [I a1,I a2, .sl 0 n3,I a5] [ri n3 g4] (.tup [.agg [I 0,I 0],I 3]) []:=
 SCall.path 34 [.call [] (B r6) [], .call [] (B r7) [],fb,fb,fb,tb] [] 2 (by kernel_rfl) rfl (by exact⟨fun _=>rfl,trivial⟩) (ca h0 (ca h1 (ca (nf h2) (ca (nf h2) (ca (nf h2) (ca (nt h3) na))))))
theorem demurrageref09_Part_2 {a1 a2:Int} {n3:Nat} {g4:Nat→Int} {a5:Int} {r6 r7:Bool} (h0:S 35 [I a1] [] (B r6) []) (h1:S 35 [I a2] [] (B r7) []) (h2:r6=true) (h3:r7=true) (h4:a1>a2):
  S 54 [I a1,I a2, .sl 0 n3,I a5] [ri n3 g4] (.tup [.agg [I 0,I 0],I 4]) []:=
 SCall.path 43 [.call [] (B r6) [], .call [] (B r7) [],fb,fb,fb,fb,tb] [] 2 (by kernel_rfl) rfl (by exact⟨fun _=>rfl,trivial⟩) (ca h0 (ca h1 (ca (nf h2) (ca (nf h2) (ca (nf h2) (ca (nf h3) (ca (dt h4) na)))))))
theorem demurrageref09_Part_3 {a1 a2:Int} {n3:Nat} {g4:Nat→Int} {a5:Int} {r6 r7 r8:Bool} (h0:S 35 [I a1] [] (B r6) []) (h1:S 35 [I a2] [] (B r7) []) (h2:r6=true) (h3:r7=true) (h4: ¬a1>a2) (h5:S 79 [.sl 0 n3,I a5] [ri n3 g4] (B r8) []) (h6:r8=false):
  S 54 [I a1,I a2, .sl 0 n3,I a5] [ri n3 g4] (.tup [.agg [I 0,I 0],I 5]) []:=
 SCall.path 75 [.call [] (B r6) [], .call [] (B r7) [],fb,fb,fb,fb,fb, .call [0] (B r8) [],tb,tb,tb,tb,tb,tb,tb,tb,tb,tb,tb,tb,tb,tb,tb,tb] [] 2 (by kernel_rfl) rfl (by exact⟨fun _=>rfl,trivial⟩) (ca h0 (ca h1 (ca (nf h2) (ca (nf h2) (ca (nf h2) (ca (nf h3) (ca (df h4) (ca h5 (ca (nt h6) (ca (nt h6) (ca (nt h6) (ca (nt h6) (ca (nt h6) (ca (nt h6) (ca rt (ca rt (ca rt (ca rt (ca rt (ca rt (ca rt (ca rt (ca rt (ca rt na))))))))))))))))))))))))
theorem demurrageref09_Part_4 {a1 a2:Int} {n3:Nat} {g4:Nat→Int} {a5:Int} {r6 r7 r8:Bool} (h0:S 35 [I a1] [] (B r6) []) (h1:S 35 [I a2] [] (B r7) []) (h2:r6=true) (h3:r7=true) (h4: ¬a1>a2) (h5:S 79 [.sl 0 n3,I a5] [ri n3 g4] (B r8) []) (h6:r8=true) (h7:(0:Int)≤0∧0<((n3:Nat):Int)) (h8:a1<(g4 0)):
  S 54 [I a1,I a2, .sl 0 n3,I a5] [ri n3 g4] (.tup [.agg [I 0,I 0],I 5]) []:=
 SCall.path 75 [.call [] (B r6) [], .call [] (B r7) [],fb,fb,fb,fb,fb, .call [0] (B r8) [],fb,fb,fb,fb,fb,fb,tb,tb,tb,tb,tb,tb,tb,tb,tb,tb] [] 2 (by kernel_rfl) rfl (by exact⟨fun _=>rfl,trivial⟩) (ca h0 (ca h1 (ca (nf h2) (ca (nf h2) (ca (nf h2) (ca (nf h3) (ca (df h4) (ca h5 (ca (nf h6) (ca (nf h6) (ca (nf h6) (ca h7 (ca (re n3) (ca (nf h6) (ca h7 (ca (nf h6) (ca (nf h6) (ca (dt h8) (ca (dt h8) (ca (dt h8) (ca (dt h8) (ca (dt h8) (ca (dt h8) (ca (dt h8) (ca (dt h8) (ca (dt h8) (ca rt na)))))))))))))))))))))))))))
theorem demurrageref09_Part_5 {a1 a2:Int} {n3:Nat} {g4:Nat→Int} {a5:Int} {r6 r7 r8:Bool} (h0:S 35 [I a1] [] (B r6) []) (h1:S 35 [I a2] [] (B r7) []) (h2:r6=true) (h3:r7=true) (h4: ¬a1>a2) (h5:S 79 [.sl 0 n3,I a5] [ri n3 g4] (B r8) []) (h6:r8=true) (h7:(0:Int)≤0∧0<((n3:Nat):Int)) (h8: ¬a1<(g4 0)) (h9:InR .i64 (((n3:Nat):Int)-1)) (h10:(0:Int)≤(((n3:Nat):Int)-1)∧(((n3:Nat):Int)-1)<((n3:Nat):Int)) (h11:a2>(g4 ((((n3:Nat):Int)-1).toNat))):
  S 54 [I a1,I a2, .sl 0 n3,I a5] [ri n3 g4] (.tup [.agg [I 0,I 0],I 5]) []:=
 SCall.path 75 [.call [] (B r6) [], .call [] (B r7) [],fb,fb,fb,fb,fb, .call [0] (B r8) [],fb,fb,fb,fb,fb,fb,fb,fb,fb,fb,fb,fb,fb,fb,fb,tb] [] 2 (by kernel_rfl) rfl (by exact⟨fun _=>rfl,trivial⟩) (ca h0 (ca h1 (ca (nf h2) (ca (nf h2) (ca (nf h2) (ca (nf h3) (ca (df h4) (ca h5 (ca (nf h6) (ca (nf h6) (ca (nf h6) (ca h7 (ca (re n3) (ca (nf h6) (ca h7 (ca (nf h6) (ca (nf h6) (ca (df h8) (ca (df h8) (ca (df h8) (ca (df h8) (ca (df h8) (ca h9 (ca (df h8) (ca h10 (ca (re n3) (ca (df h8) (ca h10 (ca (df h8) (ca (df h8) (ca (dt h11) na)))))))))))))))))))))))))))))))
noncomputable def demurrageref09_Part_h0 (n3:Nat) (g4:Nat→Int) (x1:Int) (x2:Int) (x3:Int) (x4:Int) (x5:Int) (x6:Int) (x7:Int) (x8:Int):SC:=
 ⟨[⟨54,slo 113 [(0,I x1),(1,I x2),(2, .sl 0 n3),(3,I x3),(8, .ptr 1 0),(13, .ptr 2 0),(14,I x4)],[.code (bodyAt Tryz.f54 [1,1,1,1,1,1,1,1,0,1,0,0]), .inLoop (bodyAt Tryz.f54 [1,1,1,1,1,1,1,1,0,1,0,0]), .inBlock 0, .code (bodyAt Tryz.f54 [1,1,1,1,1,1,1,1,1])],{}⟩],[ri n3 g4,some (.box true [I x5,I x6]),some (.box true [I x7,I x8])]⟩
theorem demurrageref09_Part_6 {X:Cx} {res:SV} {new:List (Option Vw)} {a1 a2:Int} {n3:Nat} {g4:Nat→Int} {a5:Int} {r6 r7 r8:Bool} (hX:Fi X 54 [ri n3 g4] res new) (h0:S 35 [I a1] [] (B r6) []) (h1:S 35 [I a2] [] (B r7) []) (h2:r6=true) (h3:r7=true) (h4: ¬a1>a2) (h5:S 79 [.sl 0 n3,I a5] [ri n3 g4] (B r8) []) (h6:r8=true) (h7:(0:Int)≤0∧0<((n3:Nat):Int)) (h8: ¬a1<(g4 0)) (h9:InR .i64 (((n3:Nat):Int)-1)) (h10:(0:Int)≤(((n3:Nat):Int)-1)∧(((n3:Nat):Int)-1)<((n3:Nat):Int)) (h11: ¬a2>(g4 ((((n3:Nat):Int)-1).toNat))) (k:Ok X (demurrageref09_Part_h0 n3 g4 a1 a2 a5 1 0 0 0 1)):
  Ok X (entry Tryz.prog 54 [I a1,I a2, .sl 0 n3,I a5] [ri n3 g4]):=
 Ok.cutM 83 [.call [] (B r6) [], .call [] (B r7) [],fb,fb,fb,fb,fb, .call [0] (B r8) [],fb,fb,fb,fb,fb,fb,fb,fb,fb,fb,fb,fb,fb,fb,fb,fb] [msk 113 [0,1,2,3,8,13,14]] [.old 0, .old 1, .old 2] 1 hX.P hX.gl hX.n0 (by kernel_rfl) (by kernel_rfl) (by exact⟨fun _=>rfl,rfl,rfl,trivial⟩) (ca h0 (ca h1 (ca (nf h2) (ca (nf h2) (ca (nf h2) (ca (nf h3) (ca (df h4) (ca h5 (ca (nf h6) (ca (nf h6) (ca (nf h6) (ca h7 (ca (re n3) (ca (nf h6) (ca h7 (ca (nf h6) (ca (nf h6) (ca (df h8) (ca (df h8) (ca (df h8) (ca (df h8) (ca (df h8) (ca h9 (ca (df h8) (ca h10 (ca (re n3) (ca (df h8) (ca h10 (ca (df h8) (ca (df h8) (ca (df h11) na))))))))))))))))))))))))))))))) k
theorem demurrageref09_Part_7 {X:Cx} {res:SV} {new:List (Option Vw)} {n3:Nat} {g4:Nat→Int} {x1 x2 x3 x4 x5 x6 x7 x8:Int} (hX:Fi X 54 [ri n3 g4] res new) (h0:x4<((n3:Nat):Int)) (h1:InR .i64 (x4-1)) (h2:(0:Int)≤(x4-1)∧(x4-1)<((n3:Nat):Int)) (h3:(0:Int)≤x4∧x4<((n3:Nat):Int)) (h4:(g4 ((x4-1).toNat))=(g4 x4.toNat)) (h5:InR .i64 (x4+1)) (k:Ok X (demurrageref09_Part_h0 n3 g4 x1 x2 x3 (x4+1) x5 x6 x7 x8)):
  Ok X (demurrageref09_Part_h0 n3 g4 x1 x2 x3 x4 x5 x6 x7 x8):=
 Ok.cutM 44 [tb,tb] [msk 113 [0,1,2,3,8,13,14]] [.old 0, .old 1, .old 2] 1 hX.P hX.gl hX.n0 (by kernel_rfl) (by kernel_rfl) (by exact⟨fun _=>rfl,rfl,rfl,trivial⟩) (ca (dt h0) (ca h1 (ca h2 (ca (re n3) (ca h2 (ca h3 (ca (re n3) (ca h3 (ca (beq_iff_eq.2 h4) (ca h5 na)))))))))) k
theorem demurrageref09_Part_8 {X:Cx} {res:SV} {new:List (Option Vw)} {n3:Nat} {g4:Nat→Int} {x1 x2 x3 x4 x5 x6 x7 x8 r5009 r5010 r5011 r5012 r5013 r5014:Int} (hX:Fi X 54 [ri n3 g4] res new) (h0:x4<((n3:Nat):Int)) (h1:InR .i64 (x4-1)) (h2:(0:Int)≤(x4-1)∧(x4-1)<((n3:Nat):Int)) (h3:(0:Int)≤x4∧x4<((n3:Nat):Int)) (h4:(g4 ((x4-1).toNat))≠(g4 x4.toNat)) (h5:(g4 ((x4-1).toNat))>x1) (h6:(g4 x4.toNat)<x2) (h7:(g4 x4.toNat)>(g4 ((x4-1).toNat))) (h8:InR .i64 ((g4 x4.toNat)-(g4 ((x4-1).toNat)))) (h9:InR .i64 (x3*((g4 x4.toNat)-(g4 ((x4-1).toNat))))) (h10:S 77 [I ((g4 x4.toNat)-(g4 ((x4-1).toNat))),I (x3*((g4 x4.toNat)-(g4 ((x4-1).toNat))))] [] (.tup [.agg [I r5009,I r5010],I r5011]) []) (h11:S 18 [.agg [I x7,I x8], .agg [I r5009,I r5010]] [] (.tup [.agg [I r5012,I r5013],I r5014]) []) (h12:InR .i64 (x4+1)) (k:Ok X (demurrageref09_Part_h0 n3 g4 x1 x2 x3 (x4+1) x5 x6 r5012 r5013)):
  Ok X (demurrageref09_Part_h0 n3 g4 x1 x2 x3 x4 x5 x6 x7 x8):=
 Ok.cutM 120 [tb,fb,tb,tb,tb, .call [] (.tup [.agg [I r5009,I r5010],I r5011]) [], .call [] (.tup [.agg [I r5012,I r5013],I r5014]) []] [msk 113 [0,1,2,3,8,13,14]] [.old 0, .old 1, .old 2] 1 hX.P hX.gl hX.n0 (by kernel_rfl) (by kernel_rfl) (by exact⟨fun _=>rfl,rfl,rfl,trivial⟩) (ca (dt h0) (ca h1 (ca h2 (ca (re n3) (ca h2 (ca h3 (ca (re n3) (ca h3 (ca (beq_eq_false_iff_ne.2 h4) (ca (dt h5) (ca (dt h6) (ca (dt h7) (ca h8 (ca h8 (ca h9 (ca h10 (ca h11 (ca h12 na)))))))))))))))))) k
theorem demurrageref09_Part_10 {X:Cx} {res:SV} {new:List (Option Vw)} {n3:Nat} {g4:Nat→Int} {x1 x2 x3 x4 x5 x6 x7 x8 r5009 r5010 r5011 r5012 r5013 r5014:Int} (hX:Fi X 54 [ri n3 g4] res new) (h0:x4<((n3:Nat):Int)) (h1:InR .i64 (x4-1)) (h2:(0:Int)≤(x4-1)∧(x4-1)<((n3:Nat):Int)) (h3:(0:Int)≤x4∧x4<((n3:Nat):Int)) (h4:(g4 ((x4-1).toNat))≠(g4 x4.toNat)) (h5:(g4 ((x4-1).toNat))>x1) (h6: ¬(g4 x4.toNat)<x2) (h7:x2>(g4 ((x4-1).toNat))) (h8:InR .i64 (x2-(g4 ((x4-1).toNat)))) (h9:InR .i64 ((g4 x4.toNat)-(g4 ((x4-1).toNat)))) (h10:InR .i64 (x3*((g4 x4.toNat)-(g4 ((x4-1).toNat))))) (h11:S 77 [I (x2-(g4 ((x4-1).toNat))),I (x3*((g4 x4.toNat)-(g4 ((x4-1).toNat))))] [] (.tup [.agg [I r5009,I r5010],I r5011]) []) (h12:S 18 [.agg [I x7,I x8], .agg [I r5009,I r5010]] [] (.tup [.agg [I r5012,I r5013],I r5014]) []) (h13:InR .i64 (x4+1)) (k:Ok X (demurrageref09_Part_h0 n3 g4 x1 x2 x3 (x4+1) x5 x6 r5012 r5013)):
  Ok X (demurrageref09_Part_h0 n3 g4 x1 x2 x3 x4 x5 x6 x7 x8):=
 Ok.cutM 117 [tb,fb,tb,fb,tb, .call [] (.tup [.agg [I r5009,I r5010],I r5011]) [], .call [] (.tup [.agg [I r5012,I r5013],I r5014]) []] [msk 113 [0,1,2,3,8,13,14]] [.old 0, .old 1, .old 2] 1 hX.P hX.gl hX.n0 (by kernel_rfl) (by kernel_rfl) (by exact⟨fun _=>rfl,rfl,rfl,trivial⟩) (ca (dt h0) (ca h1 (ca h2 (ca (re n3) (ca h2 (ca h3 (ca (re n3) (ca h3 (ca (beq_eq_false_iff_ne.2 h4) (ca (dt h5) (ca (df h6) (ca (dt h7) (ca h8 (ca h9 (ca h10 (ca h11 (ca h12 (ca h13 na)))))))))))))))))) k
theorem demurrageref09_Part_11 {X:Cx} {res:SV} {new:List (Option Vw)} {n3:Nat} {g4:Nat→Int} {x1 x2 x3 x4 x5 x6 x7 x8:Int} (hX:Fi X 54 [ri n3 g4] res new) (h0:x4<((n3:Nat):Int)) (h1:InR .i64 (x4-1)) (h2:(0:Int)≤(x4-1)∧(x4-1)<((n3:Nat):Int)) (h3:(0:Int)≤x4∧x4<((n3:Nat):Int)) (h4:(g4 ((x4-1).toNat))≠(g4 x4.toNat)) (h5:(g4 ((x4-1).toNat))>x1) (h6: ¬(g4 x4.toNat)<x2) (h7: ¬x2>(g4 ((x4-1).toNat))) (h8:InR .i64 (x4+1)) (k:Ok X (demurrageref09_Part_h0 n3 g4 x1 x2 x3 (x4+1) x5 x6 x7 x8)):
  Ok X (demurrageref09_Part_h0 n3 g4 x1 x2 x3 x4 x5 x6 x7 x8):=
 Ok.cutM 84 [tb,fb,tb,fb,fb] [msk 113 [0,1,2,3,8,13,14]] [.old 0, .old 1, .old 2] 1 hX.P hX.gl hX.n0 (by kernel_rfl) (by kernel_rfl) (by exact⟨fun _=>rfl,rfl,rfl,trivial⟩) (ca (dt h0) (ca h1 (ca h2 (ca (re n3) (ca h2 (ca h3 (ca (re n3) (ca h3 (ca (beq_eq_false_iff_ne.2 h4) (ca (dt h5) (ca (df h6) (ca (df h7) (ca h8 na))))))))))))) k
theorem demurrageref09_Part_12 {X:Cx} {res:SV} {new:List (Option Vw)} {n3:Nat} {g4:Nat→Int} {x1 x2 x3 x4 x5 x6 x7 x8 r5009 r5010 r5011 r5012 r5013 r5014:Int} (hX:Fi X 54 [ri n3 g4] res new) (h0:x4<((n3:Nat):Int)) (h1:InR .i64 (x4-1)) (h2:(0:Int)≤(x4-1)∧(x4-1)<((n3:Nat):Int)) (h3:(0:Int)≤x4∧x4<((n3:Nat):Int)) (h4:(g4 ((x4-1).toNat))≠(g4 x4.toNat)) (h5: ¬(g4 ((x4-1).toNat))>x1) (h6:(g4 x4.toNat)<x2) (h7:(g4 x4.toNat)>x1) (h8:InR .i64 ((g4 x4.toNat)-x1)) (h9:InR .i64 ((g4 x4.toNat)-(g4 ((x4-1).toNat)))) (h10:InR .i64 (x3*((g4 x4.toNat)-(g4 ((x4-1).toNat))))) (h11:S 77 [I ((g4 x4.toNat)-x1),I (x3*((g4 x4.toNat)-(g4 ((x4-1).toNat))))] [] (.tup [.agg [I r5009,I r5010],I r5011]) []) (h12:S 18 [.agg [I x7,I x8], .agg [I r5009,I r5010]] [] (.tup [.agg [I r5012,I r5013],I r5014]) []) (h13:InR .i64 (x4+1)) (k:Ok X (demurrageref09_Part_h0 n3 g4 x1 x2 x3 (x4+1) x5 x6 r5012 r5013)):
  Ok X (demurrageref09_Part_h0 n3 g4 x1 x2 x3 x4 x5 x6 x7 x8):=
 Ok.cutM 117 [tb,fb,fb,tb,tb, .call [] (.tup [.agg [I r5009,I r5010],I r5011]) [], .call [] (.tup [.agg [I r5012,I r5013],I r5014]) []] [msk 113 [0,1,2,3,8,13,14]] [.old 0, .old 1, .old 2] 1 hX.P hX.gl hX.n0 (by kernel_rfl) (by kernel_rfl) (by exact⟨fun _=>rfl,rfl,rfl,trivial⟩) (ca (dt h0) (ca h1 (ca h2 (ca (re n3) (ca h2 (ca h3 (ca (re n3) (ca h3 (ca (beq_eq_false_iff_ne.2 h4) (ca (df h5) (ca (dt h6) (ca (dt h7) (ca h8 (ca h9 (ca h10 (ca h11 (ca h12 (ca h13 na)))))))))))))))))) k
theorem demurrageref09_Part_13 {X:Cx} {res:SV} {new:List (Option Vw)} {n3:Nat} {g4:Nat→Int} {x1 x2 x3 x4 x5 x6 x7 x8:Int} (hX:Fi X 54 [ri n3 g4] res new) (h0:x4<((n3:Nat):Int)) (h1:InR .i64 (x4-1)) (h2:(0:Int)≤(x4-1)∧(x4-1)<((n3:Nat):Int)) (h3:(0:Int)≤x4∧x4<((n3:Nat):Int)) (h4:(g4 ((x4-1).toNat))≠(g4 x4.toNat)) (h5: ¬(g4 ((x4-1).toNat))>x1) (h6:(g4 x4.toNat)<x2) (h7: ¬(g4 x4.toNat)>x1) (h8:InR .i64 (x4+1)) (k:Ok X (demurrageref09_Part_h0 n3 g4 x1 x2 x3 (x4+1) x5 x6 x7 x8)):
  Ok X (demurrageref09_Part_h0 n3 g4 x1 x2 x3 x4 x5 x6 x7 x8):=
 Ok.cutM 84 [tb,fb,fb,tb,fb] [msk 113 [0,1,2,3,8,13,14]] [.old 0, .old 1, .old 2] 1 hX.P hX.gl hX.n0 (by kernel_rfl) (by kernel_rfl) (by exact⟨fun _=>rfl,rfl,rfl,trivial⟩) (ca (dt h0) (ca h1 (ca h2 (ca (re n3) (ca h2 (ca h3 (ca (re n3) (ca h3 (ca (beq_eq_false_iff_ne.2 h4) (ca (df h5) (ca (dt h6) (ca (df h7) (ca h8 na))))))))))))) k
theorem demurrageref09_Part_14 {X:Cx} {res:SV} {new:List (Option Vw)} {n3:Nat} {g4:Nat→Int} {x1 x2 x3 x4 x5 x6 x7 x8 r5009 r5010 r5011 r5012 r5013 r5014:Int} (hX:Fi X 54 [ri n3 g4] res new) (h0:x4<((n3:Nat):Int)) (h1:InR .i64 (x4-1)) (h2:(0:Int)≤(x4-1)∧(x4-1)<((n3:Nat):Int)) (h3:(0:Int)≤x4∧x4<((n3:Nat):Int)) (h4:(g4 ((x4-1).toNat))≠(g4 x4.toNat)) (h5: ¬(g4 ((x4-1).toNat))>x1) (h6: ¬(g4 x4.toNat)<x2) (h7:x2>x1) (h8:InR .i64 (x2-x1)) (h9:InR .i64 ((g4 x4.toNat)-(g4 ((x4-1).toNat)))) (h10:InR .i64 (x3*((g4 x4.toNat)-(g4 ((x4-1).toNat))))) (h11:S 77 [I (x2-x1),I (x3*((g4 x4.toNat)-(g4 ((x4-1).toNat))))] [] (.tup [.agg [I r5009,I r5010],I r5011]) []) (h12:S 18 [.agg [I x7,I x8], .agg [I r5009,I r5010]] [] (.tup [.agg [I r5012,I r5013],I r5014]) []) (h13:InR .i64 (x4+1)) (k:Ok X (demurrageref09_Part_h0 n3 g4 x1 x2 x3 (x4+1) x5 x6 r5012 r5013)):
  Ok X (demurrageref09_Part_h0 n3 g4 x1 x2 x3 x4 x5 x6 x7 x8):=
 Ok.cutM 114 [tb,fb,fb,fb,tb, .call [] (.tup [.agg [I r5009,I r5010],I r5011]) [], .call [] (.tup [.agg [I r5012,I r5013],I r5014]) []] [msk 113 [0,1,2,3,8,13,14]] [.old 0, .old 1, .old 2] 1 hX.P hX.gl hX.n0 (by kernel_rfl) (by kernel_rfl) (by exact⟨fun _=>rfl,rfl,rfl,trivial⟩) (ca (dt h0) (ca h1 (ca h2 (ca (re n3) (ca h2 (ca h3 (ca (re n3) (ca h3 (ca (beq_eq_false_iff_ne.2 h4) (ca (df h5) (ca (df h6) (ca (dt h7) (ca h8 (ca h9 (ca h10 (ca h11 (ca h12 (ca h13 na)))))))))))))))))) k
theorem demurrageref09_Part_15 {X:Cx} {res:SV} {new:List (Option Vw)} {n3:Nat} {g4:Nat→Int} {x1 x2 x3 x4 x5 x6 x7 x8:Int} (hX:Fi X 54 [ri n3 g4] res new) (h0:x4<((n3:Nat):Int)) (h1:InR .i64 (x4-1)) (h2:(0:Int)≤(x4-1)∧(x4-1)<((n3:Nat):Int)) (h3:(0:Int)≤x4∧x4<((n3:Nat):Int)) (h4:(g4 ((x4-1).toNat))≠(g4 x4.toNat)) (h5: ¬(g4 ((x4-1).toNat))>x1) (h6: ¬(g4 x4.toNat)<x2) (h7: ¬x2>x1) (h8:InR .i64 (x4+1)) (k:Ok X (demurrageref09_Part_h0 n3 g4 x1 x2 x3 (x4+1) x5 x6 x7 x8)):
  Ok X (demurrageref09_Part_h0 n3 g4 x1 x2 x3 x4 x5 x6 x7 x8):=
 Ok.cutM 81 [tb,fb,fb,fb,fb] [msk 113 [0,1,2,3,8,13,14]] [.old 0, .old 1, .old 2] 1 hX.P hX.gl hX.n0 (by kernel_rfl) (by kernel_rfl) (by exact⟨fun _=>rfl,rfl,rfl,trivial⟩) (ca (dt h0) (ca h1 (ca h2 (ca (re n3) (ca h2 (ca h3 (ca (re n3) (ca h3 (ca (beq_eq_false_iff_ne.2 h4) (ca (df h5) (ca (df h6) (ca (df h7) (ca h8 na))))))))))))) k
theorem demurrageref09_Part_16 {X:Cx} {n3:Nat} {g4:Nat→Int} {x1 x2 x3 x4 x5 x6 x7 x8:Int} (hX:Fi X 54 [ri n3 g4] (.tup [.agg [I x7,I x8],I 0]) []) (h0: ¬x4<((n3:Nat):Int)):
  Ok X (demurrageref09_Part_h0 n3 g4 x1 x2 x3 x4 x5 x6 x7 x8):=
 Ok.fin 16 [fb] [] 3 hX (by kernel_rfl) rfl (ca (df h0) na)
theorem rpart_loop {X:Cx} {n f:Nat} {g:Nat→Int} {a b:Int} (hf:1≤f) (hf2:f≤12) (hn:n≤1204) (hs: ∀ i,i<n-1→g i≤g (i+1)) (hd: ∀ i,i<n→1≤g i∧g i≤3652059) (ha:1≤a∧a≤3652059) (hb:1≤b∧b≤3652059) (hn2:2≤n)
  (hX:IsFin X Tryz.prog GL 54 [some (.row false 3 n 1 (fun i=>[I (g i)]))] (RQ (psum a b f g (n-1))) []):
  ∀ (m k:Nat),n-1-k=m→k≤n-1→Ok X (demurrageref09_Part_h0 n g a b (f:Int) ((k:Int)+1) 0 0 (psum a b f g k).num ((psum a b f g k).den:Int))
 |0,k,hm,hk=>by
  have:k=n-1:=by omega
  subst this
  exact demurrageref09_Part_16 hX (by omega)
 |m+1,k,hm,hk=>by
  have ih:=rpart_loop hf hf2 hn hs hd ha hb hn2 hX m (k+1) (by omega) (by omega)
  rw[show(((k+1:Nat)):Int)=(k:Int)+1 by omega]at ih
  have e1:(((k:Int)+1)-1).toNat=k:=by omega
  have e2:((k:Int)+1).toNat=k+1:=by omega
  have d1:=hd k (by omega)
  have d2:=hd (k+1) (by omega)
  have hle:=hs k (by omega)
  have i1:InR .i64 (((k:Int)+1)-1):=by simp only[InR];omega
  have i2:InR .i64 (((k:Int)+1)+1):=by simp only[InR];omega
  have b1:(0:Int)≤(((k:Int)+1)-1)∧(((k:Int)+1)-1)<((n:Nat):Int):=by omega
  have b2:(0:Int)≤((k:Int)+1)∧((k:Int)+1)<((n:Nat):Int):=by omega
  by_cases heq:g k=g (k+1)
  ·refine demurrageref09_Part_7 hX (by omega) i1 b1 b2 (by rw[e1,e2];exact heq) i2 ?_
   have:psum a b f g (k+1)=psum a b f g k:=by
    show psum a b f g k+term a b f g k=_
    unfold term;rw[if_neg (by omega),Rat.add_zero]
   rw[this]at ih
   exact ih
  ·have hlt:g k<g (k+1):=by omega
   have hne:g (((k:Int)+1)-1).toNat≠g ((k:Int)+1).toNat:=by rw[e1,e2];exact heq
   have hstep:=(psum_step hf hf2 hn hs hd a b (k:=k) (by omega)).2
   have hL:(f:Int)*(g (k+1)-g k)=((f*(g (k+1)-g k).toNat:Nat):Int):=by
    rw[Int.natCast_mul];congr 1;omega
   have hLb:f*(g (k+1)-g k).toNat≤12*3652058:=Nat.mul_le_mul hf2 (by omega)
   have hL0:f*(g (k+1)-g k).toNat≠0:=Nat.mul_ne_zero (by omega) (by omega)
   have i3:InR .i64 (g ((k:Int)+1).toNat-g (((k:Int)+1)-1).toNat):=by rw[e1,e2];simp only[InR];omega
   have i4:InR .i64 ((f:Int)*(g ((k:Int)+1).toNat-g (((k:Int)+1)-1).toNat)):=by rw[e1,e2,hL];simp only[InR];omega
   have hnew: ∀ o:Int,ov a b (g k) (g (k+1))=o→SCall Tryz.prog GL 77 [I o,I ((f:Int)*(g ((k:Int)+1).toNat-g (((k:Int)+1)-1).toNat))] [] (RQ (term a b f g k)) []:=by
    intro o ho
    obtain⟨o',ho'⟩: ∃ o':Nat,o=(o':Int):=Int.eq_ofNat_of_zero_le (by rw[←ho];exact ov_nn _ _ _ _)
    have hol:=ov_le (a:=a) (b:=b) (Int.le_of_lt hlt)
    rw[e1,e2,hL,ho']
    have:= @ref_NewQ _ o' _ hL0 (by omega) (by omega)
    unfold term
    rw[if_pos hlt,ho,ho']
    exact this
   have hnone:ov a b (g k) (g (k+1))=0→Ok X (demurrageref09_Part_h0 n g a b (f:Int) (((k:Int)+1)+1) 0 0 (psum a b f g k).num ((psum a b f g k).den:Int)):=by
    intro ho
    have:psum a b f g (k+1)=psum a b f g k:=by
     show psum a b f g k+term a b f g k=_
     unfold term;rw[if_pos hlt,ho,Rat.zero_mkRat,Rat.add_zero]
    rw[this]at ih
    exact ih
   by_cases c1:g k>a
   ·have c1':g (((k:Int)+1)-1).toNat>a:=by rw[e1];exact c1
    by_cases c2:g (k+1)<b
    ·have c2':g ((k:Int)+1).toNat<b:=by rw[e2];exact c2
     have ho:ov a b (g k) (g (k+1))=g ((k:Int)+1).toNat-g (((k:Int)+1)-1).toNat:=by
      rw[e1,e2];unfold ov;rw[if_pos c2,if_pos (show a<g k by omega),if_pos (by omega)]
     exact demurrageref09_Part_8 hX (by omega) i1 b1 b2 hne c1' c2' (by rw[e1,e2];exact hlt) i3 i4 (hnew _ ho) hstep i2 ih
    ·have c2': ¬g ((k:Int)+1).toNat<b:=by rw[e2];exact c2
     by_cases c3:b>g k
     ·have ho:ov a b (g k) (g (k+1))=b-g (((k:Int)+1)-1).toNat:=by
       rw[e1];unfold ov;rw[if_neg c2,if_pos (show a<g k by omega),if_pos (by omega)]
      exact demurrageref09_Part_10 hX (by omega) i1 b1 b2 hne c1' c2' (by rw[e1];exact c3) (by rw[e1];simp only[InR];omega) i3 i4 (hnew _ ho) hstep i2 ih
     ·have ho:ov a b (g k) (g (k+1))=0:=by
       unfold ov;rw[if_neg c2,if_pos (show a<g k by omega),if_neg (by omega)]
      exact demurrageref09_Part_11 hX (by omega) i1 b1 b2 hne c1' c2' (by rw[e1];exact c3) i2 (hnone ho)
   ·have c1': ¬g (((k:Int)+1)-1).toNat>a:=by rw[e1];exact c1
    by_cases c2:g (k+1)<b
    ·have c2':g ((k:Int)+1).toNat<b:=by rw[e2];exact c2
     by_cases c3:g (k+1)>a
     ·have ho:ov a b (g k) (g (k+1))=g ((k:Int)+1).toNat-a:=by
       rw[e2];unfold ov;rw[if_pos c2,if_neg (show¬a<g k by omega),if_pos (by omega)]
      exact demurrageref09_Part_12 hX (by omega) i1 b1 b2 hne c1' c2' (by rw[e2];exact c3) (by rw[e2];simp only[InR];omega) i3 i4 (hnew _ ho) hstep i2 ih
     ·have ho:ov a b (g k) (g (k+1))=0:=by
       unfold ov;rw[if_pos c2,if_neg (show¬a<g k by omega),if_neg (by omega)]
      exact demurrageref09_Part_13 hX (by omega) i1 b1 b2 hne c1' c2' (by rw[e2];exact c3) i2 (hnone ho)
    ·have c2': ¬g ((k:Int)+1).toNat<b:=by rw[e2];exact c2
     by_cases c3:b>a
     ·have ho:ov a b (g k) (g (k+1))=b-a:=by
       unfold ov;rw[if_neg c2,if_neg (show¬a<g k by omega),if_pos (by omega)]
      exact demurrageref09_Part_14 hX (by omega) i1 b1 b2 hne c1' c2' c3 (by simp only[InR];omega) i3 i4 (hnew _ ho) hstep i2 ih
     ·have ho:ov a b (g k) (g (k+1))=0:=by
       unfold ov;rw[if_neg c2,if_neg (show¬a<g k by omega),if_neg (by omega)]
      exact demurrageref09_Part_15 hX (by omega) i1 b1 b2 hne c1' c2' c3 i2 (hnone ho)
theorem rpart {n:Nat} {g:Nat→Int} {a b f:Int}:SCall Tryz.prog GL 54 [I a,I b, .sl 0 n,I f] [some (.row false 3 n 1 (fun i=>[I (g i)]))] (RT (partR a b n g f)) []:=by
 unfold partR
 cases hda:isDay a
 ·rw[if_pos (.inl rfl)]
  exact demurrageref09_Part_0 (rDay a) (rDay b) hda
 cases hdb:isDay b
 ·rw[if_pos (.inr rfl)]
  exact demurrageref09_Part_1 (rDay a) (rDay b) hda hdb
 rw[if_neg (by simp)]
 by_cases hab:a>b
 ·rw[if_pos hab]
  exact demurrageref09_Part_2 (rDay a) (rDay b) hda hdb hab
 rw[if_neg hab]
 cases hm:mayB n g f
 ·rw[if_pos (.inl rfl)]
  exact demurrageref09_Part_3 (rDay a) (rDay b) hda hdb hab rmay hm
 obtain⟨m1,m2,m3,m4,m5,m6,m7⟩:=may_facts hm
 have e:(((n:Nat):Int)-1).toNat=n-1:=by omega
 by_cases h0:a<g 0
 ·rw[if_pos (.inr (.inl h0))]
  exact demurrageref09_Part_4 (rDay a) (rDay b) hda hdb hab rmay hm (by omega) h0
 by_cases h1:b>g (n-1)
 ·rw[if_pos (.inr (.inr h1))]
  exact demurrageref09_Part_5 (rDay a) (rDay b) hda hdb hab rmay hm (by omega) h0 (by simp only[InR];omega) (by omega) (by rw[e];exact h1)
 rw[if_neg (by simp;omega)]
 obtain⟨F,rfl⟩: ∃ F:Nat,f=(F:Int):=Int.eq_ofNat_of_zero_le (by omega)
 refine SCall.of (by kernel_rfl) rfl ⟨fun i=>rfl,trivial⟩ rfl (fun X hX=> ?_)
 refine demurrageref09_Part_6 hX (rDay a) (rDay b) hda hdb hab rmay hm (by omega) h0 (by simp only[InR];omega) (by omega) (by rw[e];exact h1) ?_
 unfold isDay at hda hdb
 rw[decide_eq_true_eq]at hda hdb
 exact rpart_loop (by omega) (by omega) m2 m6 m5 hda hdb m1 hX (n-1) 0 (by omega) (by omega)
end Go.Proofs.YtgojmodiaffcbaaGreatDoor
