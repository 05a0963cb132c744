import Derived.Test.YtelidogcomffkaaGreatDoorSC
import Derived.Test.YtelidogcomffkaaGreatDoorProg
import Derived.KernelRfl
import Derived.Laws.Externs
set_option linter.unusedSectionVars false
set_option linter.unusedSimpArgs false
set_option linter.unusedVariables false
set_option maxRecDepth 100000
namespace Go.Proofs.YtelidogcomffkaaGreatDoor
open Go Go.Sx
class Env where
 n0:Addr
 n1:Addr
 ne:n0≠n1
 more:List (Nat×Vw)
variable [Env]
def lens (i:Nat):Int:=[0,31,28,31,30,31,30,31,31,30,31,30,31].getD i 0
abbrev errS (a:Addr):Value:= .iface 343 (.pointer (some a))
def GL [Env]:List (Nat×Vw):=[(0, .row false 3 13 1 (fun i=>[I (lens i)])),(2, .box false [.val (.iface 287 (.agg #[.pointer (some ⟨9,209,none⟩)]))]),
 (5, .box false [.val (errS Env.n0)]),(6, .box false [.val (errS Env.n1)])]++(Env.more++[(Env.n0.block, .box true []),(Env.n1.block, .box true [])])
abbrev S:=SCall Tryz.prog GL
abbrev Fi (X:Cx):=IsFin X Tryz.prog GL
abbrev ri (n:Nat) (g:Nat→Int):Option Vw:=some (.row false 3 n 1 (fun i=>[I (g i)]))
abbrev ro (n:Nat) (g:Nat→Int):Option Vw:=some (.row true 3 n 1 (fun i=>[I (g i)]))
end Go.Proofs.YtelidogcomffkaaGreatDoor
namespace Go.Proofs.YtelidogcomffkaaGreatDoor
open Go Go.Sx
variable [Env]
def cmpI (a b:Int):Int:=if a<b then-1 else if b<a then 1 else 0
def mkR (n d:Nat):Int×Int×Int:=
 if n/Nat.gcd n d>4611686018427387904∨d/Nat.gcd n d>4611686018427387904 then(0,0,6)else(((n/Nat.gcd n d:Nat):Int),((d/Nat.gcd n d:Nat):Int),0)
abbrev RT (r:Int×Int×Int):SV:= .tup [.agg [I r.1,I r.2.1],I r.2.2]
theorem cmp_isNaN_uint64__0 {a1:Int}:
  S 263 [N .u64 a1] [] (B (a1 !=a1)) []:=
 SCall.path 11 [] [] 0 (by kernel_rfl) rfl (by exact trivial) na
theorem cmp_isNaN_u {a:Int}:SCall Tryz.prog GL 263 [N .u64 a] [] (B false) []:=by
 have h:= @cmp_isNaN_uint64__0 _ a
 rwa [bne_self_eq_false]at h
theorem cmp_isNaN_int__0 {a1:Int}:
  S 250 [I a1] [] (B (a1 !=a1)) []:=
 SCall.path 11 [] [] 0 (by kernel_rfl) rfl (by exact trivial) na
theorem cmp_isNaN_i {a:Int}:SCall Tryz.prog GL 250 [I a] [] (B false) []:=by
 have h:= @cmp_isNaN_int__0 _ a
 rwa [bne_self_eq_false]at h
theorem cmp_Compare_uint64__0 {a1 a2:Int} (h0:a1<a2):
  S 255 [N .u64 a1,N .u64 a2] [] (I (-1)) []:=
 SCall.path 42 [.call [] (B false) [], .call [] (B false) [],fb,fb,tb] [] 0 (by kernel_rfl) rfl (by exact trivial) (ca (show S 263 [N .u64 a1] [] (B false) []from cmp_isNaN_u) (ca (show S 263 [N .u64 a2] [] (B false) []from cmp_isNaN_u) (ca rf (ca rf (ca (dt h0) na)))))
theorem cmp_Compare_uint64__1 {a1 a2:Int} (h0: ¬a1<a2) (h1:a1>a2):
  S 255 [N .u64 a1,N .u64 a2] [] (I 1) []:=
 SCall.path 51 [.call [] (B false) [], .call [] (B false) [],fb,fb,fb,tb] [] 0 (by kernel_rfl) rfl (by exact trivial) (ca (show S 263 [N .u64 a1] [] (B false) []from cmp_isNaN_u) (ca (show S 263 [N .u64 a2] [] (B false) []from cmp_isNaN_u) (ca rf (ca rf (ca (df h0) (ca (dt h1) na))))))
theorem cmp_Compare_uint64__2 {a1 a2:Int} (h0: ¬a1<a2) (h1: ¬a1>a2):
  S 255 [N .u64 a1,N .u64 a2] [] (I 0) []:=
 SCall.path 52 [.call [] (B false) [], .call [] (B false) [],fb,fb,fb,fb] [] 0 (by kernel_rfl) rfl (by exact trivial) (ca (show S 263 [N .u64 a1] [] (B false) []from cmp_isNaN_u) (ca (show S 263 [N .u64 a2] [] (B false) []from cmp_isNaN_u) (ca rf (ca rf (ca (df h0) (ca (df h1) na))))))
theorem cmp_Compare_u {a b:Int}:SCall Tryz.prog GL 255 [N .u64 a,N .u64 b] [] (I (cmpI a b)) []:=by
 unfold cmpI
 split
 ·exact cmp_Compare_uint64__0 (by assumption)
 ·split
  ·exact cmp_Compare_uint64__1 (by assumption) (by assumption)
  ·exact cmp_Compare_uint64__2 (by assumption) (by assumption)
theorem cmp_Less_int__0 {a1 a2:Int}:
  S 234 [I a1,I a2] [] (B (decide (a1<a2))) []:=
 SCall.path 20 [.call [] (B false) [],fb,fb,fb,fb,fb,fb,fb,fb] [] 0 (by kernel_rfl) rfl (by exact trivial) (ca (show S 250 [I a1] [] (B false) []from cmp_isNaN_i) (ca rf (ca rf (ca rf (ca rf (ca rf (ca rf (ca rf (ca rf na)))))))))
theorem cmp_Less_i {a b:Int}:SCall Tryz.prog GL 234 [I a,I b] [] (B (decide (a<b))) []:=by
 cases h:decide (a<b)with
 |true=>have:= @cmp_Less_int__0 _ a b;simpa[h]using this
 |false=>have:= @cmp_Less_int__0 _ a b;simpa[h]using this
theorem wide_Of_0 {a1:Int}:
  S 223 [N .u64 a1] [] (.agg [N .u64 0,N .u64 a1]) []:=
 SCall.path 10 [] [] 1 (by kernel_rfl) rfl (by exact trivial) na
theorem wide_Of {a:Int}:SCall Tryz.prog GL 223 [N .u64 a] [] (.agg [N .u64 0,N .u64 a]) []:=wide_Of_0
theorem wide_Cmp_0 {a1 a2 a3 a4:Int} (h0:a1≠a3):
  S 239 [.agg [N .u64 a1,N .u64 a2], .agg [N .u64 a3,N .u64 a4]] [] (I (cmpI a1 a3)) []:=
 SCall.path 25 [tb, .call [] (I (cmpI a1 a3)) []] [] 2 (by kernel_rfl) rfl (by exact trivial) (ca (bne_iff_ne.2 h0) (ca (show S 255 [N .u64 a1,N .u64 a3] [] (I (cmpI a1 a3)) []from cmp_Compare_u) na))
theorem wide_Cmp_1 {a1 a2 a3 a4:Int} (h0:a1=a3):
  S 239 [.agg [N .u64 a1,N .u64 a2], .agg [N .u64 a3,N .u64 a4]] [] (I (cmpI a2 a4)) []:=
 SCall.path 26 [fb, .call [] (I (cmpI a2 a4)) []] [] 2 (by kernel_rfl) rfl (by exact trivial) (ca (bne_eq_false_iff_eq.2 h0) (ca (show S 255 [N .u64 a2,N .u64 a4] [] (I (cmpI a2 a4)) []from cmp_Compare_u) na))
def W2 (a b:Int):Int:=a*18446744073709551616+b
theorem wide_Cmp {a b c d:Int} (hb:InR .u64 b) (hd:InR .u64 d):
  SCall Tryz.prog GL 239 [.agg [N .u64 a,N .u64 b], .agg [N .u64 c,N .u64 d]] [] (I (cmpI (W2 a b) (W2 c d))) []:=by
 simp only[InR]at hb hd
 by_cases h:a=c
 ·have e:cmpI (W2 a b) (W2 c d)=cmpI b d:=by
   subst h
   unfold cmpI W2
   split<;>split<;>(try split)<;>(try split)<;>(first|rfl|omega)
  rw[e];exact wide_Cmp_1 h
 ·have e:cmpI (W2 a b) (W2 c d)=cmpI a c:=by
   unfold cmpI W2
   split<;>split<;>(try split)<;>(try split)<;>(first|rfl|omega)
  rw[e];exact wide_Cmp_0 h
theorem wide_halves_0 {a1 a2:Int}:
  S 256 [.agg [N .u64 a1,N .u64 a2]] [] (.agg [N .u64 a2,N .u64 a1]) []:=
 SCall.path 14 [] [] 2 (by kernel_rfl) rfl (by exact trivial) na
end Go.Proofs.YtelidogcomffkaaGreatDoor
namespace Go.Proofs.YtelidogcomffkaaGreatDoor
open Go Go.Sx
variable [Env]
noncomputable def demurrageref01_Row_h0 (n1:Nat) (g2:Nat→Int) (n3:Nat) (g4:Nat→Int) (x1:Int):SC:=
 ⟨[⟨58,slo 26 [(0, .sl 0 n1),(1, .sl 1 n3),(5,I x1)],[.code (bodyAt Tryz.f58 [1,1,0,1,0,0]), .inLoop (bodyAt Tryz.f58 [1,1,0,1,0,0]), .inBlock 0, .code (bodyAt Tryz.f58 [1,1,1])],{}⟩],[ri n1 g2,ri n3 g4]⟩
theorem demurrageref01_Row_w0 {X:Cx} {n1:Nat} {g2:Nat→Int} {n3:Nat} {g4:Nat→Int} {res:SV} (hX:Fi X 58 [ri n1 g2,ri n3 g4] res []) (H:(((n1:Nat):Int)≠((n3:Nat):Int)→B false=res)∧(((n1:Nat):Int)=((n3:Nat):Int)→Ok X (demurrageref01_Row_h0 n1 g2 n3 g4 0))):
  Ok X (entry Tryz.prog 58 [.sl 0 n1, .sl 1 n3] [ri n1 g2,ri n3 g4]):=by
 obtain⟨H1,H2⟩:=H
 by_cases h0:((n1:Nat):Int)=((n3:Nat):Int)
 ·exact hX.h 22 [f_ (bne_eq_false_iff_eq.2 h0)] (oldM 2) (H2 h0)
 ·obtain rfl:=H1 h0
  exact hX.e [t_ (bne_iff_ne.2 h0)]
theorem demurrageref01_Row_w1 {X:Cx} {n1:Nat} {g2:Nat→Int} {n3:Nat} {g4:Nat→Int} {x1:Int} {res:SV} (hX:Fi X 58 [ri n1 g2,ri n3 g4] res []) (H:(x1<((n1:Nat):Int)→((0:Int)≤x1∧x1<((n1:Nat):Int))∧((0:Int)≤x1∧x1<((n3:Nat):Int))∧((g2 x1.toNat)≠(g4 x1.toNat)→B false=res)∧((g2 x1.toNat)=(g4 x1.toNat)→Ir (x1+1)∧Ok X (demurrageref01_Row_h0 n1 g2 n3 g4 (x1+1))))∧(¬x1<((n1:Nat):Int)→B true=res)):
  Ok X (demurrageref01_Row_h0 n1 g2 n3 g4 x1):=by
 obtain⟨H1,H2⟩:=H
 by_cases h0:x1<((n1:Nat):Int)
 ·obtain⟨h1,h2,H1,H2⟩:=H1 h0
  refine hX.go [t_ (dt h0),q_ h1,q_ (re n1),q_ h1,q_ h2,q_ (re n3),q_ h2,d_ 8] ?_
  by_cases h3:(g2 x1.toNat)=(g4 x1.toNat)
  ·obtain⟨h4,k⟩:=H2 h3
   exact hX.h 9 [f_ (bne_eq_false_iff_eq.2 h3),q_ h4] (oldM 2) k
  ·obtain rfl:=H1 h3
   exact hX.e [t_ (bne_iff_ne.2 h3)]
 ·obtain rfl:=H2 h0
  exact hX.e [f_ (df h0)]
theorem rRow {n m:Nat} {f g:Nat→Int} (hn:n<9223372036854775807):S 58 [.sl 0 n, .sl 1 m] [ri n f,ri m g] (B (decide (n=m∧ ∀ i,i<n→f i=g i))) []:=by
 refine SCall.of (by kernel_rfl) rfl ⟨fun i=>rfl,fun i=>rfl,trivial⟩ rfl (fun X hX=> ?_)
 refine demurrageref01_Row_w0 hX ⟨fun c=> ?_,fun c=> ?_⟩
 ·rw[decide_eq_false (fun q=>c (by rw[q.1]))]
 ·have hnm:n=m:=by omega
  subst hnm
  have key: ∀ k i:Nat,n-i=k→i≤n→(∀ j,j<i→f j=g j)→Ok X (demurrageref01_Row_h0 n f n g (i:Int)):=by
   intro k
   induction k with
   |zero=>
    intro i hm hi hq
    have:i=n:=by omega
    subst this
    refine demurrageref01_Row_w1 hX ⟨fun c=>by omega,fun _=> ?_⟩
    rw[decide_eq_true ⟨rfl,hq⟩]
   |succ k ih=>
    intro i hm hi hq
    refine demurrageref01_Row_w1 hX ⟨fun _=>⟨⟨by omega,by omega⟩,⟨by omega,by omega⟩,fun c=> ?_,fun c=>⟨by simp only[Ir,InR];omega, ?_⟩⟩,fun c=>by omega⟩
    ·rw[decide_eq_false (fun q=>c (q.2 i (by omega)))]
    ·exact ih (i+1) (by omega) (by omega) (fun j hj=>by
      by_cases z:j<i
      ·exact hq j z
      ·rw[show j=i by omega];exact c)
  exact key n 0 rfl (Nat.zero_le _) (fun k hk=>by omega)
end Go.Proofs.YtelidogcomffkaaGreatDoor
namespace Go.Proofs.YtelidogcomffkaaGreatDoor
open Go Go.Sx
variable [Env]
theorem and32 {n:Nat} (h:n<18446744073709551616):andI .u64 (n:Int) 4294967295=((n%4294967296:Nat):Int):=by
 have h1:((BitVec.ofInt 64 (n:Int))&&&(BitVec.ofInt 64 4294967295)).toNat=n%4294967296:=by
  rw[BitVec.toNat_and,BitVec.toNat_ofInt,BitVec.toNat_ofInt]
  rw[show((n:Int)%(2^64:Nat)).toNat=n by omega,show((4294967295:Int)%(2^64:Nat)).toNat=2^32-1 from rfl,Nat.and_two_pow_sub_one_eq_mod]
 unfold andI
 show IntKind.wrap .u64 ((((BitVec.ofInt 64 (n:Int))&&&(BitVec.ofInt 64 4294967295)).toNat:Nat):Int)=_
 rw[h1]
 exact wrap_InR (by simp only[InR];omega)
theorem shr32 {n:Nat}:shrI .u64 (n:Int) 32=((n/4294967296:Nat):Int):=by
 unfold shrI
 show Int.fdiv (n:Int) 4294967296=_
 rw[Int.fdiv_eq_ediv_of_nonneg _ (by decide)]
 rfl
abbrev wideV (v:Nat):SV:= .agg [N .u64 ((v/18446744073709551616:Nat):Int),N .u64 ((v%18446744073709551616:Nat):Int)]
theorem wideV_small {v:Nat} (h:v<18446744073709551616):wideV v= .agg [N .u64 0,N .u64 (v:Int)]:=by
 unfold wideV;rw[Nat.div_eq_of_lt h,Nat.mod_eq_of_lt h];rfl
theorem W2_wide (v:Nat):W2 ((v/18446744073709551616:Nat):Int) ((v%18446744073709551616:Nat):Int)=(v:Int):=by unfold W2;omega
theorem Cmp_wide (x y:Nat):SCall Tryz.prog GL 239 [wideV x,wideV y] [] (I (cmpI x y)) []:=by
 have:= @wide_Cmp _ ((x/18446744073709551616:Nat):Int) ((x%18446744073709551616:Nat):Int) ((y/18446744073709551616:Nat):Int) ((y%18446744073709551616:Nat):Int) (by simp only[InR];omega) (by simp only[InR];omega)
 rwa [W2_wide,W2_wide]at this
theorem Of_wide {x:Nat} (h:x<18446744073709551616):SCall Tryz.prog GL 223 [N .u64 (x:Int)] [] (wideV x) []:=by
 rw[wideV_small h];exact wide_Of
theorem bits_Mul64_0 {a1 a2:Int} (h0:InR .u64 ((andI .u64 a1 4294967295)*(andI .u64 a2 4294967295))) (h1:InR .u64 ((shrI .u64 a1 32)*(andI .u64 a2 4294967295))) (h2:InR .u64 (((shrI .u64 a1 32)*(andI .u64 a2 4294967295))+(shrI .u64 ((andI .u64 a1 4294967295)*(andI .u64 a2 4294967295)) 32))) (h3:InR .u64 ((andI .u64 a1 4294967295)*(shrI .u64 a2 32))) (h4:InR .u64 ((andI .u64 (((shrI .u64 a1 32)*(andI .u64 a2 4294967295))+(shrI .u64 ((andI .u64 a1 4294967295)*(andI .u64 a2 4294967295)) 32)) 4294967295)+((andI .u64 a1 4294967295)*(shrI .u64 a2 32)))) (h5:InR .u64 ((shrI .u64 a1 32)*(shrI .u64 a2 32))) (h6:InR .u64 (((shrI .u64 a1 32)*(shrI .u64 a2 32))+(shrI .u64 (((shrI .u64 a1 32)*(andI .u64 a2 4294967295))+(shrI .u64 ((andI .u64 a1 4294967295)*(andI .u64 a2 4294967295)) 32)) 32))) (h7:InR .u64 ((((shrI .u64 a1 32)*(shrI .u64 a2 32))+(shrI .u64 (((shrI .u64 a1 32)*(andI .u64 a2 4294967295))+(shrI .u64 ((andI .u64 a1 4294967295)*(andI .u64 a2 4294967295)) 32)) 32))+(shrI .u64 ((andI .u64 (((shrI .u64 a1 32)*(andI .u64 a2 4294967295))+(shrI .u64 ((andI .u64 a1 4294967295)*(andI .u64 a2 4294967295)) 32)) 4294967295)+((andI .u64 a1 4294967295)*(shrI .u64 a2 32))) 32))):
  S 230 [N .u64 a1,N .u64 a2] [] (.tup [N .u64 ((((shrI .u64 a1 32)*(shrI .u64 a2 32))+(shrI .u64 (((shrI .u64 a1 32)*(andI .u64 a2 4294967295))+(shrI .u64 ((andI .u64 a1 4294967295)*(andI .u64 a2 4294967295)) 32)) 32))+(shrI .u64 ((andI .u64 (((shrI .u64 a1 32)*(andI .u64 a2 4294967295))+(shrI .u64 ((andI .u64 a1 4294967295)*(andI .u64 a2 4294967295)) 32)) 4294967295)+((andI .u64 a1 4294967295)*(shrI .u64 a2 32))) 32)),N .u64 (IntKind.wrap .u64 (a1*a2))]) []:=
 SCall.path 86 [.t, .t, .t, .t, .t, .t, .t, .t, .w] [] 0 (by kernel_rfl) rfl (by exact trivial) (ca (show(0:Int)≤32 from by decide) (ca (show(0:Int)≤32 from by decide) (ca h0 (ca h1 (ca (show(0:Int)≤32 from by decide) (ca h2 (ca (show(0:Int)≤32 from by decide) (ca h3 (ca h4 (ca h5 (ca h6 (ca (show(0:Int)≤32 from by decide) (ca h7 na)))))))))))))
theorem Mul64 {a b:Nat} (ha:a<18446744073709551616) (hb:b<18446744073709551616):SCall Tryz.prog GL 230 [N .u64 (a:Int),N .u64 (b:Int)] [] (.tup [N .u64 ((a*b/18446744073709551616:Nat):Int),N .u64 ((a*b%18446744073709551616:Nat):Int)]) []:=by
 have hA:=Nat.div_add_mod a 4294967296
 have hB:=Nat.div_add_mod b 4294967296
 have q0:=Nat.mod_lt a (show 0<4294967296 by decide)
 have r0:=Nat.mod_lt b (show 0<4294967296 by decide)
 have q1:a/4294967296<4294967296:=by omega
 have r1:b/4294967296<4294967296:=by omega
 have h:= @bits_Mul64_0 _ (a:Int) (b:Int)
 rw[and32 ha,and32 hb,shr32,shr32]at h
 generalize a/4294967296=A1 at*
 generalize a%4294967296=A0 at*
 generalize b/4294967296=B1 at*
 generalize b%4294967296=B0 at*
 have p00:A0*B0≤4294967295*4294967295:=Nat.mul_le_mul (by omega) (by omega)
 have p01:A0*B1≤4294967295*4294967295:=Nat.mul_le_mul (by omega) (by omega)
 have p10:A1*B0≤4294967295*4294967295:=Nat.mul_le_mul (by omega) (by omega)
 have p11:A1*B1≤4294967295*4294967295:=Nat.mul_le_mul (by omega) (by omega)
 have hab:a*b=A1*B1*18446744073709551616+(A1*B0+A0*B1)*4294967296+A0*B0:=by
  rw[←hA,←hB,Nat.add_mul,Nat.mul_add,Nat.mul_add]
  have e1:4294967296*A1*(4294967296*B1)=A1*B1*18446744073709551616:=by
   rw[show(18446744073709551616:Nat)=4294967296*4294967296 from rfl]
   simp only[Nat.mul_assoc,Nat.mul_comm,Nat.mul_left_comm]
  have e2:4294967296*A1*B0=A1*B0*4294967296:=by rw[Nat.mul_assoc,Nat.mul_comm]
  have e3:A0*(4294967296*B1)=A0*B1*4294967296:=by rw[Nat.mul_comm 4294967296,Nat.mul_assoc]
  rw[e1,e2,e3,Nat.add_mul];omega
 have hm: ∀ x y:Nat,((x:Nat):Int)*((y:Nat):Int)=((x*y:Nat):Int):=fun x y=>by simp
 have hs: ∀ x y:Nat,((x:Nat):Int)+((y:Nat):Int)=((x+y:Nat):Int):=fun x y=>by simp
 rw[hm A0 B0,hm A1 B0,hm A0 B1,hm A1 B1,hm a b,shr32,hs,shr32,hs,and32 (by omega),hs,shr32,hs]at h
 have hw:IntKind.wrap .u64 ((a*b:Nat):Int)=((a*b%18446744073709551616:Nat):Int):=by
  simp only[IntKind.wrap,IntKind.signed,IntKind.bits]
  simp
 rw[hw]at h
 have h9:=h (by simp only[InR];omega) (by simp only[InR];omega) (by simp only[InR];omega) (by simp only[InR];omega) (by simp only[InR];omega) (by simp only[InR];omega) (by simp only[InR];omega) (by simp only[InR];omega)
 rw[show a*b/18446744073709551616=A1*B1+(A1*B0+A0*B0/4294967296)/4294967296+((A1*B0+A0*B0/4294967296)%4294967296+A0*B1)/4294967296 by rw[hab];omega]
 exact h9
theorem Add64 {x y c:Nat} (hc:c≤1):SExt Tryz.prog 242 [N .u64 (x:Int),N .u64 (y:Int),N .u64 (c:Int)] (.tup [N .u64 (((x+y+c)%18446744073709551616:Nat):Int),N .u64 (((x+y+c)/18446744073709551616:Nat):Int)]):=by
 intro θ W
 show(callFunc 242 #[.int .u64 x, .int .u64 y, .int .u64 c]).run Tryz.prog W= .ok (.value (.tuple #[.int .u64 (((x+y+c)%18446744073709551616:Nat):Int), .int .u64 (((x+y+c)/18446744073709551616:Nat):Int)])) W
 rw[run_callFunc_extern (fn:=Tryz.f242) (by kernel_rfl) (by kernel_rfl) (by kernel_rfl) (by kernel_rfl) (e:=add64Entry) (by kernel_rfl),run_add64 x y c (by omega) (by omega) (by omega) (by omega)]
 simp only[Result.andThen]
 congr 5<;>omega
theorem bits_Div64_0 {a1 a2 a3:Int} (h0:a3≠0) (h1: ¬a3≤a1) (h2:a1=0) (h3:(0:Int)≤a2) (h4:(0:Int)<a3) (h5:InR .u64 (a2/a3)):
  S 244 [N .u64 a1,N .u64 a2,N .u64 a3] [] (.tup [N .u64 (a2/a3),N .u64 (a2%a3)]) []:=
 SCall.path 33 [fb,fb,tb, .draw 7 [] 0] [] 0 (by kernel_rfl) rfl (by exact trivial) (ca (beq_eq_false_iff_ne.2 h0) (ca (df h1) (ca (beq_iff_eq.2 h2) (ca h3 (ca h4 (ca h5 (ca h3 (ca h4 na))))))))
theorem wide_Mul_0 {a1 a2 r3 r4:Int} (h0:S 230 [N .u64 a1,N .u64 a2] [] (.tup [N .u64 r3,N .u64 r4]) []):
  S 202 [N .u64 a1,N .u64 a2] [] (.agg [N .u64 r3,N .u64 r4]) []:=
 SCall.path 22 [.call [] (.tup [N .u64 r3,N .u64 r4]) []] [] 1 (by kernel_rfl) rfl (by exact trivial) (ca h0 na)
theorem Mul_wide {a b:Nat} (ha:a<18446744073709551616) (hb:b<18446744073709551616):SCall Tryz.prog GL 202 [N .u64 (a:Int),N .u64 (b:Int)] [] (wideV (a*b)) []:=
 wide_Mul_0 (Mul64 ha hb)
theorem wide_Add_0 {a1 a2 a3 a4 r5 r6 r7 r8:Int} (h0:SExt Tryz.prog 242 [N .u64 a2,N .u64 a4,N .u64 0] (.tup [N .u64 r5,N .u64 r6])) (h1:SExt Tryz.prog 242 [N .u64 a1,N .u64 a3,N .u64 r6] (.tup [N .u64 r7,N .u64 r8])) (h2:r8≠0):
  S 224 [.agg [N .u64 a1,N .u64 a2], .agg [N .u64 a3,N .u64 a4]] [] (.tup [.agg [N .u64 0,N .u64 0],I 6]) []:=
 SCall.path 133 [.inl, .draw 6 [] 0, .call [] (.agg [N .u64 a2,N .u64 a1]) [], .call [] (.agg [N .u64 a4,N .u64 a3]) [],tb, .draw 14 [12] 1, .ext (.tup [N .u64 r5,N .u64 r6]),tb, .draw 14 [12] 1, .ext (.tup [N .u64 r7,N .u64 r8]),fb, .inl,tb] [] 11 (by kernel_rfl) rfl (by exact trivial) (ca (show S 256 [.agg [N .u64 a1,N .u64 a2]] [] (.agg [N .u64 a2,N .u64 a1]) []from wide_halves_0) (ca (show S 256 [.agg [N .u64 a3,N .u64 a4]] [] (.agg [N .u64 a4,N .u64 a3]) []from wide_halves_0) (ca (show decide ((0:Int)<2)=true from rfl) (ca (show(0:Int)≤0∧0<((2:Nat):Int)from by decide) (ca (show(0:Int)≤0∧0<((2:Nat):Int)from by decide) (ca h0 (ca (show(0:Int)≤0∧0<((2:Nat):Int)from by decide) (ca (show(N .u64 r6:SV)=N .u64 r6 from rfl) (ca (show(N .u64 r6:SV)=N .u64 r6 from rfl) (ca (show InR .i64 1 from by decide) (ca (show decide ((1:Int)<2)=true from rfl) (ca (show(0:Int)≤1∧1<((2:Nat):Int)from by decide) (ca (show(0:Int)≤1∧1<((2:Nat):Int)from by decide) (ca h1 (ca (show(0:Int)≤1∧1<((2:Nat):Int)from by decide) (ca (show(N .u64 r8:SV)=N .u64 r8 from rfl) (ca (show(N .u64 r8:SV)=N .u64 r8 from rfl) (ca (show InR .i64 2 from by decide) (ca (show decide ((2:Int)<2)=false from rfl) (ca (show(0:Int)≤1∧1<((2:Nat):Int)from by decide) (ca (show(0:Int)≤0∧0<((2:Nat):Int)from by decide) (ca (Go.Sx.not_t (beq_eq_false_iff_ne.2 h2)) na))))))))))))))))))))))
theorem wide_Add_1 {a1 a2 a3 a4 r5 r6 r7 r8:Int} (h0:SExt Tryz.prog 242 [N .u64 a2,N .u64 a4,N .u64 0] (.tup [N .u64 r5,N .u64 r6])) (h1:SExt Tryz.prog 242 [N .u64 a1,N .u64 a3,N .u64 r6] (.tup [N .u64 r7,N .u64 r8])) (h2:r8=0):
  S 224 [.agg [N .u64 a1,N .u64 a2], .agg [N .u64 a3,N .u64 a4]] [] (.tup [.agg [N .u64 r7,N .u64 r5],I 0]) []:=
 SCall.path 134 [.inl, .draw 6 [] 0, .call [] (.agg [N .u64 a2,N .u64 a1]) [], .call [] (.agg [N .u64 a4,N .u64 a3]) [],tb, .draw 14 [12] 1, .ext (.tup [N .u64 r5,N .u64 r6]),tb, .draw 14 [12] 1, .ext (.tup [N .u64 r7,N .u64 r8]),fb, .inl,fb] [] 11 (by kernel_rfl) rfl (by exact trivial) (ca (show S 256 [.agg [N .u64 a1,N .u64 a2]] [] (.agg [N .u64 a2,N .u64 a1]) []from wide_halves_0) (ca (show S 256 [.agg [N .u64 a3,N .u64 a4]] [] (.agg [N .u64 a4,N .u64 a3]) []from wide_halves_0) (ca (show decide ((0:Int)<2)=true from rfl) (ca (show(0:Int)≤0∧0<((2:Nat):Int)from by decide) (ca (show(0:Int)≤0∧0<((2:Nat):Int)from by decide) (ca h0 (ca (show(0:Int)≤0∧0<((2:Nat):Int)from by decide) (ca (show(N .u64 r6:SV)=N .u64 r6 from rfl) (ca (show(N .u64 r6:SV)=N .u64 r6 from rfl) (ca (show InR .i64 1 from by decide) (ca (show decide ((1:Int)<2)=true from rfl) (ca (show(0:Int)≤1∧1<((2:Nat):Int)from by decide) (ca (show(0:Int)≤1∧1<((2:Nat):Int)from by decide) (ca h1 (ca (show(0:Int)≤1∧1<((2:Nat):Int)from by decide) (ca (show(N .u64 r8:SV)=N .u64 r8 from rfl) (ca (show(N .u64 r8:SV)=N .u64 r8 from rfl) (ca (show InR .i64 2 from by decide) (ca (show decide ((2:Int)<2)=false from rfl) (ca (show(0:Int)≤1∧1<((2:Nat):Int)from by decide) (ca (show(0:Int)≤0∧0<((2:Nat):Int)from by decide) (ca (Go.Sx.not_f (beq_iff_eq.2 h2)) na))))))))))))))))))))))
theorem Add_wide {x y:Nat} (h:x+y<340282366920938463463374607431768211456):SCall Tryz.prog GL 224 [wideV x,wideV y] [] (.tup [wideV (x+y),I 0]) []:=by
 have h0:= @Add64 _ (x%18446744073709551616) (y%18446744073709551616) 0 (by decide)
 have h1:= @Add64 _ (x/18446744073709551616) (y/18446744073709551616) ((x%18446744073709551616+y%18446744073709551616+0)/18446744073709551616) (by omega)
 have h2:=wide_Add_1 h0 h1 (by omega)
 rw[show(x/18446744073709551616+y/18446744073709551616+(x%18446744073709551616+y%18446744073709551616+0)/18446744073709551616)%18446744073709551616=(x+y)/18446744073709551616 by omega,
  show(x%18446744073709551616+y%18446744073709551616+0)%18446744073709551616=(x+y)%18446744073709551616 by omega]at h2
 exact h2
theorem wide_Div_1 {a1 a2 a3 r4 r5 r6 r7:Int} (h0:a3≠0) (h1:S 244 [N .u64 0,N .u64 a1,N .u64 a3] [] (.tup [N .u64 r4,N .u64 r5]) []) (h2:S 244 [N .u64 r5,N .u64 a2,N .u64 a3] [] (.tup [N .u64 r6,N .u64 r7]) []):
  S 225 [.agg [N .u64 a1,N .u64 a2],N .u64 a3] [] (.tup [.agg [N .u64 r4,N .u64 r6],N .u64 r7,I 0]) []:=
 SCall.path 101 [fb, .inl, .call [] (.tup [N .u64 r4,N .u64 r5]) [], .inl, .call [] (.tup [N .u64 r6,N .u64 r7]) [], .draw 4 [3] 1] [] 4 (by kernel_rfl) rfl (by exact trivial) (ca (beq_eq_false_iff_ne.2 h0) (ca h1 (ca h2 (ca (show(N .u64 r7:SV)=N .u64 r7 from rfl) (ca (show(N .u64 r7:SV)=N .u64 r7 from rfl) na)))))
theorem Div64_0 {x d:Nat} (hd:d≠0) (hx:x<18446744073709551616):SCall Tryz.prog GL 244 [N .u64 0,N .u64 (x:Int),N .u64 (d:Int)] [] (.tup [N .u64 ((x/d:Nat):Int),N .u64 ((x%d:Nat):Int)]) []:=by
 have h:=Nat.div_le_self x d
 exact bits_Div64_0 (by omega) (by omega) rfl (by omega) (by omega) (by rw[show((x:Int)/(d:Int))=((x/d:Nat):Int)by simp];generalize x/d=q at*;simp only[InR];omega)
theorem Div_wide {x d:Nat} (hd:d≠0) (hx:x<18446744073709551616):SCall Tryz.prog GL 225 [wideV x,N .u64 (d:Int)] [] (.tup [wideV (x/d),N .u64 ((x%d:Nat):Int),I 0]) []:=by
 have h0:= @Div64_0 _ 0 d hd (by decide)
 rw[Nat.zero_div,Nat.zero_mod]at h0
 have h:=Nat.div_le_self x d
 rw[wideV_small hx,wideV_small (Nat.lt_of_le_of_lt h hx)]
 exact wide_Div_1 (by omega) h0 (Div64_0 hd hx)
end Go.Proofs.YtelidogcomffkaaGreatDoor
