import Derived.Test.YtelidogcomffkaaGreatDoorSC
import Derived.Test.YtelidogcomffkaaGreatDoorProg
import Derived.KernelRfl
import Derived.Laws.Externs
set_option linter.unusedSectionVars false
set_option linter.unusedSimpArgs false
set_option linter.unusedVariables false
set_option maxRecDepth 100000
namespace Go.Proofs.YtelidogcomffkaaGreatDoor
open Go Go.Sx
class Env where
 n0:Addr
 n1:Addr
 ne:n0≠n1
 more:List (Nat×Vw)
variable [Env]
def lens (i:Nat):Int:=[0,31,28,31,30,31,30,31,31,30,31,30,31].getD i 0
abbrev bK (a:Addr):Value:= .iface 343 (.pointer (some a))
def GL [Env]:List (Nat×Vw):=[(0, .row false 3 13 1 (fun i=>[I (lens i)])),(2, .box false [.val (.iface 287 (.agg #[.pointer (some ⟨9,209,none⟩)]))]),
 (5, .box false [.val (bK Env.n0)]),(6, .box false [.val (bK Env.n1)])]++(Env.more++[(Env.n0.block, .box true []),(Env.n1.block, .box true [])])
abbrev S:=ab Tryz.prog GL
abbrev Fi (X:Cx):=av X Tryz.prog GL
abbrev ri (n:Nat) (g:Nat→Int):Option Vw:=some (.row false 3 n 1 (fun i=>[I (g i)]))
abbrev ro (n:Nat) (g:Nat→Int):Option Vw:=some (.row true 3 n 1 (fun i=>[I (g i)]))
end Go.Proofs.YtelidogcomffkaaGreatDoor
namespace Go.Proofs.YtelidogcomffkaaGreatDoor
open Go Go.Sx
variable [Env]
def cX (a b:Int):Int:=if a<b then-1 else if b<a then 1 else 0
def Br (n d:Nat):Int×Int×Int:=
 if n/Nat.gcd n d>4611686018427387904∨d/Nat.gcd n d>4611686018427387904 then(0,0,6)else(((n/Nat.gcd n d:Nat):Int),((d/Nat.gcd n d:Nat):Int),0)
abbrev RT (r:Int×Int×Int):SV:= .af [.agg [I r.1,I r.2.1],I r.2.2]
theorem oW {a1:Int}:
  S 263 [N .u64 a1] [] (B (a1 !=a1)) []:=
 ab.path 11 [] [] 0 (by kernel_rfl) rfl (by exact trivial) na
theorem ez {a:Int}:ab Tryz.prog GL 263 [N .u64 a] [] (B false) []:=by
 have h:= @oW _ a
 rwa [bne_self_eq_false]at h
theorem qX {a1:Int}:
  S 250 [I a1] [] (B (a1 !=a1)) []:=
 ab.path 11 [] [] 0 (by kernel_rfl) rfl (by exact trivial) na
theorem yJ {a:Int}:ab Tryz.prog GL 250 [I a] [] (B false) []:=by
 have h:= @qX _ a
 rwa [bne_self_eq_false]at h
theorem mq {a1 a2:Int} (h0:a1<a2):
  S 255 [N .u64 a1,N .u64 a2] [] (I (-1)) []:=
 ab.path 42 [.call [] (B false) [], .call [] (B false) [],fb,fb,tb] [] 0 (by kernel_rfl) rfl (by exact trivial) (ca (show S 263 [N .u64 a1] [] (B false) []from ez) (ca (show S 263 [N .u64 a2] [] (B false) []from ez) (ca rf (ca rf (ca (dt h0) na)))))
theorem mn {a1 a2:Int} (h0: ¬a1<a2) (h1:a1>a2):
  S 255 [N .u64 a1,N .u64 a2] [] (I 1) []:=
 ab.path 51 [.call [] (B false) [], .call [] (B false) [],fb,fb,fb,tb] [] 0 (by kernel_rfl) rfl (by exact trivial) (ca (show S 263 [N .u64 a1] [] (B false) []from ez) (ca (show S 263 [N .u64 a2] [] (B false) []from ez) (ca rf (ca rf (ca (df h0) (ca (dt h1) na))))))
theorem ml {a1 a2:Int} (h0: ¬a1<a2) (h1: ¬a1>a2):
  S 255 [N .u64 a1,N .u64 a2] [] (I 0) []:=
 ab.path 52 [.call [] (B false) [], .call [] (B false) [],fb,fb,fb,fb] [] 0 (by kernel_rfl) rfl (by exact trivial) (ca (show S 263 [N .u64 a1] [] (B false) []from ez) (ca (show S 263 [N .u64 a2] [] (B false) []from ez) (ca rf (ca rf (ca (df h0) (ca (df h1) na))))))
theorem pn {a b:Int}:ab Tryz.prog GL 255 [N .u64 a,N .u64 b] [] (I (cX a b)) []:=by
 unfold cX
 split
 ·exact mq (by assumption)
 ·split
  ·exact mn (by assumption) (by assumption)
  ·exact ml (by assumption) (by assumption)
theorem kF {a1 a2:Int}:
  S 234 [I a1,I a2] [] (B (decide (a1<a2))) []:=
 ab.path 20 [.call [] (B false) [],fb,fb,fb,fb,fb,fb,fb,fb] [] 0 (by kernel_rfl) rfl (by exact trivial) (ca (show S 250 [I a1] [] (B false) []from yJ) (ca rf (ca rf (ca rf (ca rf (ca rf (ca rf (ca rf (ca rf na)))))))))
theorem pO {a b:Int}:ab Tryz.prog GL 234 [I a,I b] [] (B (decide (a<b))) []:=by
 cases h:decide (a<b)with
 |true=>have:= @kF _ a b;simpa[h]using this
 |false=>have:= @kF _ a b;simpa[h]using this
theorem B6 {a1:Int}:
  S 223 [N .u64 a1] [] (.agg [N .u64 0,N .u64 a1]) []:=
 ab.path 10 [] [] 1 (by kernel_rfl) rfl (by exact trivial) na
theorem Fu {a:Int}:ab Tryz.prog GL 223 [N .u64 a] [] (.agg [N .u64 0,N .u64 a]) []:=B6
theorem za {a1 a2 a3 a4:Int} (h0:a1≠a3):
  S 239 [.agg [N .u64 a1,N .u64 a2], .agg [N .u64 a3,N .u64 a4]] [] (I (cX a1 a3)) []:=
 ab.path 25 [tb, .call [] (I (cX a1 a3)) []] [] 2 (by kernel_rfl) rfl (by exact trivial) (ca (bne_iff_ne.2 h0) (ca (show S 255 [N .u64 a1,N .u64 a3] [] (I (cX a1 a3)) []from pn) na))
theorem y_ {a1 a2 a3 a4:Int} (h0:a1=a3):
  S 239 [.agg [N .u64 a1,N .u64 a2], .agg [N .u64 a3,N .u64 a4]] [] (I (cX a2 a4)) []:=
 ab.path 26 [fb, .call [] (I (cX a2 a4)) []] [] 2 (by kernel_rfl) rfl (by exact trivial) (ca (bne_eq_false_iff_eq.2 h0) (ca (show S 255 [N .u64 a2,N .u64 a4] [] (I (cX a2 a4)) []from pn) na))
def W2 (a b:Int):Int:=a*18446744073709551616+b
theorem CS {a b c d:Int} (hb:aj .u64 b) (hd:aj .u64 d):
  ab Tryz.prog GL 239 [.agg [N .u64 a,N .u64 b], .agg [N .u64 c,N .u64 d]] [] (I (cX (W2 a b) (W2 c d))) []:=by
 simp only[aj]at hb hd
 by_cases h:a=c
 ·have e:cX (W2 a b) (W2 c d)=cX b d:=by
   subst h
   unfold cX W2
   split<;>split<;>(try split)<;>(try split)<;>(first|rfl|omega)
  rw[e];exact y_ h
 ·have e:cX (W2 a b) (W2 c d)=cX a c:=by
   unfold cX W2
   split<;>split<;>(try split)<;>(try split)<;>(first|rfl|omega)
  rw[e];exact za h
theorem fh {a1 a2:Int}:
  S 256 [.agg [N .u64 a1,N .u64 a2]] [] (.agg [N .u64 a2,N .u64 a1]) []:=
 ab.path 14 [] [] 2 (by kernel_rfl) rfl (by exact trivial) na
end Go.Proofs.YtelidogcomffkaaGreatDoor
namespace Go.Proofs.YtelidogcomffkaaGreatDoor
open Go Go.Sx
variable [Env]
noncomputable def cz (n1:Nat) (g2:Nat→Int) (n3:Nat) (g4:Nat→Int) (x1:Int):SC:=
 ⟨[⟨58,bJ 26 [(0, .sl 0 n1),(1, .sl 1 n3),(5,I x1)],[.code (aa Tryz.f58 [1,1,0,1,0,0]), .inLoop (aa Tryz.f58 [1,1,0,1,0,0]), .inBlock 0, .code (aa Tryz.f58 [1,1,1])],{}⟩],[ri n1 g2,ri n3 g4]⟩
theorem lJ {X:Cx} {n1:Nat} {g2:Nat→Int} {n3:Nat} {g4:Nat→Int} {res:SV} (hX:Fi X 58 [ri n1 g2,ri n3 g4] res []) (H:(((n1:Nat):Int)≠((n3:Nat):Int)→B false=res)∧(((n1:Nat):Int)=((n3:Nat):Int)→Ok X (cz n1 g2 n3 g4 0))):
  Ok X (entry Tryz.prog 58 [.sl 0 n1, .sl 1 n3] [ri n1 g2,ri n3 g4]):=by
 obtain⟨H1,H2⟩:=H
 by_cases h0:((n1:Nat):Int)=((n3:Nat):Int)
 ·exact hX.h 22 [f_ (bne_eq_false_iff_eq.2 h0)] (aA 2) (H2 h0)
 ·obtain rfl:=H1 h0
  exact hX.e [t_ (bne_iff_ne.2 h0)]
theorem eY {X:Cx} {n1:Nat} {g2:Nat→Int} {n3:Nat} {g4:Nat→Int} {x1:Int} {res:SV} (hX:Fi X 58 [ri n1 g2,ri n3 g4] res []) (H:(x1<((n1:Nat):Int)→((0:Int)≤x1∧x1<((n1:Nat):Int))∧((0:Int)≤x1∧x1<((n3:Nat):Int))∧((g2 x1.toNat)≠(g4 x1.toNat)→B false=res)∧((g2 x1.toNat)=(g4 x1.toNat)→Ir (x1+1)∧Ok X (cz n1 g2 n3 g4 (x1+1))))∧(¬x1<((n1:Nat):Int)→B true=res)):
  Ok X (cz n1 g2 n3 g4 x1):=by
 obtain⟨H1,H2⟩:=H
 by_cases h0:x1<((n1:Nat):Int)
 ·obtain⟨h1,h2,H1,H2⟩:=H1 h0
  refine hX.go [t_ (dt h0),q_ h1,q_ (re n1),q_ h1,q_ h2,q_ (re n3),q_ h2,d_ 8] ?_
  by_cases h3:(g2 x1.toNat)=(g4 x1.toNat)
  ·obtain⟨h4,k⟩:=H2 h3
   exact hX.h 9 [f_ (bne_eq_false_iff_eq.2 h3),q_ h4] (aA 2) k
  ·obtain rfl:=H1 h3
   exact hX.e [t_ (bne_iff_ne.2 h3)]
 ·obtain rfl:=H2 h0
  exact hX.e [f_ (df h0)]
theorem Ll {n m:Nat} {f g:Nat→Int} (hn:n<9223372036854775807):S 58 [.sl 0 n, .sl 1 m] [ri n f,ri m g] (B (decide (n=m∧ ∀ i,i<n→f i=g i))) []:=by
 refine ab.of (by kernel_rfl) rfl ⟨fun i=>rfl,fun i=>rfl,trivial⟩ rfl (fun X hX=> ?_)
 refine lJ hX ⟨fun c=> ?_,fun c=> ?_⟩
 ·rw[decide_eq_false (fun q=>c (by rw[q.1]))]
 ·have hnm:n=m:=by omega
  subst hnm
  have key: ∀ k i:Nat,n-i=k→i≤n→(∀ j,j<i→f j=g j)→Ok X (cz n f n g (i:Int)):=by
   intro k
   induction k with
   |zero=>
    intro i hm hi hq
    have:i=n:=by omega
    subst this
    refine eY hX ⟨fun c=>by omega,fun _=> ?_⟩
    rw[decide_eq_true ⟨rfl,hq⟩]
   |succ k ih=>
    intro i hm hi hq
    refine eY hX ⟨fun _=>⟨⟨by omega,by omega⟩,⟨by omega,by omega⟩,fun c=> ?_,fun c=>⟨by simp only[Ir,aj];omega, ?_⟩⟩,fun c=>by omega⟩
    ·rw[decide_eq_false (fun q=>c (q.2 i (by omega)))]
    ·exact ih (i+1) (by omega) (by omega) (fun j hj=>by
      by_cases z:j<i
      ·exact hq j z
      ·rw[show j=i by omega];exact c)
  exact key n 0 rfl (Nat.zero_le _) (fun k hk=>by omega)
end Go.Proofs.YtelidogcomffkaaGreatDoor
namespace Go.Proofs.YtelidogcomffkaaGreatDoor
open Go Go.Sx
variable [Env]
theorem yR {n:Nat} (h:n<18446744073709551616):dr .u64 (n:Int) 4294967295=((n%4294967296:Nat):Int):=by
 have h1:((BitVec.ofInt 64 (n:Int))&&&(BitVec.ofInt 64 4294967295)).toNat=n%4294967296:=by
  rw[BitVec.toNat_and,BitVec.toNat_ofInt,BitVec.toNat_ofInt]
  rw[show((n:Int)%(2^64:Nat)).toNat=n by omega,show((4294967295:Int)%(2^64:Nat)).toNat=2^32-1 from rfl,Nat.and_two_pow_sub_one_eq_mod]
 unfold dr
 show IntKind.wrap .u64 ((((BitVec.ofInt 64 (n:Int))&&&(BitVec.ofInt 64 4294967295)).toNat:Nat):Int)=_
 rw[h1]
 exact bG (by simp only[aj];omega)
theorem sZ {n:Nat}:bq .u64 (n:Int) 32=((n/4294967296:Nat):Int):=by
 unfold bq
 show Int.fdiv (n:Int) 4294967296=_
 grind
abbrev dR (v:Nat):SV:= .agg [N .u64 ((v/18446744073709551616:Nat):Int),N .u64 ((v%18446744073709551616:Nat):Int)]
theorem rm {v:Nat} (h:v<18446744073709551616):dR v= .agg [N .u64 0,N .u64 (v:Int)]:=by
 grind
theorem BZ (v:Nat):W2 ((v/18446744073709551616:Nat):Int) ((v%18446744073709551616:Nat):Int)=(v:Int):=by unfold W2;omega
theorem uK (x y:Nat):ab Tryz.prog GL 239 [dR x,dR y] [] (I (cX x y)) []:=by
 have:= @CS _ ((x/18446744073709551616:Nat):Int) ((x%18446744073709551616:Nat):Int) ((y/18446744073709551616:Nat):Int) ((y%18446744073709551616:Nat):Int) (by simp only[aj];omega) (by simp only[aj];omega)
 rwa [BZ,BZ]at this
theorem qC {x:Nat} (h:x<18446744073709551616):ab Tryz.prog GL 223 [N .u64 (x:Int)] [] (dR x) []:=by
 rw[rm h];exact Fu
theorem xb {a1 a2:Int} (h0:aj .u64 ((dr .u64 a1 4294967295)*(dr .u64 a2 4294967295))) (h1:aj .u64 ((bq .u64 a1 32)*(dr .u64 a2 4294967295))) (h2:aj .u64 (((bq .u64 a1 32)*(dr .u64 a2 4294967295))+(bq .u64 ((dr .u64 a1 4294967295)*(dr .u64 a2 4294967295)) 32))) (h3:aj .u64 ((dr .u64 a1 4294967295)*(bq .u64 a2 32))) (h4:aj .u64 ((dr .u64 (((bq .u64 a1 32)*(dr .u64 a2 4294967295))+(bq .u64 ((dr .u64 a1 4294967295)*(dr .u64 a2 4294967295)) 32)) 4294967295)+((dr .u64 a1 4294967295)*(bq .u64 a2 32)))) (h5:aj .u64 ((bq .u64 a1 32)*(bq .u64 a2 32))) (h6:aj .u64 (((bq .u64 a1 32)*(bq .u64 a2 32))+(bq .u64 (((bq .u64 a1 32)*(dr .u64 a2 4294967295))+(bq .u64 ((dr .u64 a1 4294967295)*(dr .u64 a2 4294967295)) 32)) 32))) (h7:aj .u64 ((((bq .u64 a1 32)*(bq .u64 a2 32))+(bq .u64 (((bq .u64 a1 32)*(dr .u64 a2 4294967295))+(bq .u64 ((dr .u64 a1 4294967295)*(dr .u64 a2 4294967295)) 32)) 32))+(bq .u64 ((dr .u64 (((bq .u64 a1 32)*(dr .u64 a2 4294967295))+(bq .u64 ((dr .u64 a1 4294967295)*(dr .u64 a2 4294967295)) 32)) 4294967295)+((dr .u64 a1 4294967295)*(bq .u64 a2 32))) 32))):
  S 230 [N .u64 a1,N .u64 a2] [] (.af [N .u64 ((((bq .u64 a1 32)*(bq .u64 a2 32))+(bq .u64 (((bq .u64 a1 32)*(dr .u64 a2 4294967295))+(bq .u64 ((dr .u64 a1 4294967295)*(dr .u64 a2 4294967295)) 32)) 32))+(bq .u64 ((dr .u64 (((bq .u64 a1 32)*(dr .u64 a2 4294967295))+(bq .u64 ((dr .u64 a1 4294967295)*(dr .u64 a2 4294967295)) 32)) 4294967295)+((dr .u64 a1 4294967295)*(bq .u64 a2 32))) 32)),N .u64 (IntKind.wrap .u64 (a1*a2))]) []:=
 ab.path 86 [.t, .t, .t, .t, .t, .t, .t, .t, .w] [] 0 (by kernel_rfl) rfl (by exact trivial) (ca (show(0:Int)≤32 from by decide) (ca (show(0:Int)≤32 from by decide) (ca h0 (ca h1 (ca (show(0:Int)≤32 from by decide) (ca h2 (ca (show(0:Int)≤32 from by decide) (ca h3 (ca h4 (ca h5 (ca h6 (ca (show(0:Int)≤32 from by decide) (ca h7 na)))))))))))))
theorem KK {a b:Nat} (ha:a<18446744073709551616) (hb:b<18446744073709551616):ab Tryz.prog GL 230 [N .u64 (a:Int),N .u64 (b:Int)] [] (.af [N .u64 ((a*b/18446744073709551616:Nat):Int),N .u64 ((a*b%18446744073709551616:Nat):Int)]) []:=by
 have hA:=Nat.div_add_mod a 4294967296
 have hB:=Nat.div_add_mod b 4294967296
 have q0:=Nat.mod_lt a (show 0<4294967296 by decide)
 have r0:=Nat.mod_lt b (show 0<4294967296 by decide)
 have q1:a/4294967296<4294967296:=by omega
 have r1:b/4294967296<4294967296:=by omega
 have h:= @xb _ (a:Int) (b:Int)
 rw[yR ha,yR hb,sZ,sZ]at h
 generalize a/4294967296=A1 at*
 generalize a%4294967296=A0 at*
 generalize b/4294967296=B1 at*
 generalize b%4294967296=B0 at*
 have p00:A0*B0≤4294967295*4294967295:=Nat.mul_le_mul (by omega) (by omega)
 have p01:A0*B1≤4294967295*4294967295:=Nat.mul_le_mul (by omega) (by omega)
 have p10:A1*B0≤4294967295*4294967295:=Nat.mul_le_mul (by omega) (by omega)
 have p11:A1*B1≤4294967295*4294967295:=Nat.mul_le_mul (by omega) (by omega)
 have hab:a*b=A1*B1*18446744073709551616+(A1*B0+A0*B1)*4294967296+A0*B0:=by
  grind
 have hm: ∀ x y:Nat,((x:Nat):Int)*((y:Nat):Int)=((x*y:Nat):Int):=fun x y=>by simp
 have hs: ∀ x y:Nat,((x:Nat):Int)+((y:Nat):Int)=((x+y:Nat):Int):=fun x y=>by simp
 rw[hm A0 B0,hm A1 B0,hm A0 B1,hm A1 B1,hm a b,sZ,hs,sZ,hs,yR (by omega),hs,sZ,hs]at h
 have hw:IntKind.wrap .u64 ((a*b:Nat):Int)=((a*b%18446744073709551616:Nat):Int):=by
  simp only[IntKind.wrap,IntKind.signed,IntKind.bits]
  simp
 rw[hw]at h
 have h9:=h (by simp only[aj];omega) (by simp only[aj];omega) (by simp only[aj];omega) (by simp only[aj];omega) (by simp only[aj];omega) (by simp only[aj];omega) (by simp only[aj];omega) (by simp only[aj];omega)
 rw[show a*b/18446744073709551616=A1*B1+(A1*B0+A0*B0/4294967296)/4294967296+((A1*B0+A0*B0/4294967296)%4294967296+A0*B1)/4294967296 by rw[hab];omega]
 exact h9
theorem B5 {x y c:Nat} (hc:c≤1):CI Tryz.prog 242 [N .u64 (x:Int),N .u64 (y:Int),N .u64 (c:Int)] (.af [N .u64 (((x+y+c)%18446744073709551616:Nat):Int),N .u64 (((x+y+c)/18446744073709551616:Nat):Int)]):=by
 intro θ W
 show(callFunc 242 #[.int .u64 x, .int .u64 y, .int .u64 c]).run Tryz.prog W= .ok (.value (.tuple #[.int .u64 (((x+y+c)%18446744073709551616:Nat):Int), .int .u64 (((x+y+c)/18446744073709551616:Nat):Int)])) W
 rw[run_callFunc_extern (fn:=Tryz.f242) (by kernel_rfl) (by kernel_rfl) (by kernel_rfl) (by kernel_rfl) (e:=add64Entry) (by kernel_rfl),run_add64 x y c (by omega) (by omega) (by omega) (by omega)]
 simp_all
theorem xc {a1 a2 a3:Int} (h0:a3≠0) (h1: ¬a3≤a1) (h2:a1=0) (h3:(0:Int)≤a2) (h4:(0:Int)<a3) (h5:aj .u64 (a2/a3)):
  S 244 [N .u64 a1,N .u64 a2,N .u64 a3] [] (.af [N .u64 (a2/a3),N .u64 (a2%a3)]) []:=
 ab.path 33 [fb,fb,tb, .draw 7 [] 0] [] 0 (by kernel_rfl) rfl (by exact trivial) (ca (beq_eq_false_iff_ne.2 h0) (ca (df h1) (ca (beq_iff_eq.2 h2) (ca h3 (ca h4 (ca h5 (ca h3 (ca h4 na))))))))
theorem y9 {a1 a2 r3 r4:Int} (h0:S 230 [N .u64 a1,N .u64 a2] [] (.af [N .u64 r3,N .u64 r4]) []):
  S 202 [N .u64 a1,N .u64 a2] [] (.agg [N .u64 r3,N .u64 r4]) []:=
 ab.path 22 [.call [] (.af [N .u64 r3,N .u64 r4]) []] [] 1 (by kernel_rfl) rfl (by exact trivial) (ca h0 na)
theorem eT {a b:Nat} (ha:a<18446744073709551616) (hb:b<18446744073709551616):ab Tryz.prog GL 202 [N .u64 (a:Int),N .u64 (b:Int)] [] (dR (a*b)) []:=
 y9 (KK ha hb)
theorem zc {a1 a2 a3 a4 r5 r6 r7 r8:Int} (h0:CI Tryz.prog 242 [N .u64 a2,N .u64 a4,N .u64 0] (.af [N .u64 r5,N .u64 r6])) (h1:CI Tryz.prog 242 [N .u64 a1,N .u64 a3,N .u64 r6] (.af [N .u64 r7,N .u64 r8])) (h2:r8≠0):
  S 224 [.agg [N .u64 a1,N .u64 a2], .agg [N .u64 a3,N .u64 a4]] [] (.af [.agg [N .u64 0,N .u64 0],I 6]) []:=
 ab.path 133 [.inl, .draw 6 [] 0, .call [] (.agg [N .u64 a2,N .u64 a1]) [], .call [] (.agg [N .u64 a4,N .u64 a3]) [],tb, .draw 14 [12] 1, .ext (.af [N .u64 r5,N .u64 r6]),tb, .draw 14 [12] 1, .ext (.af [N .u64 r7,N .u64 r8]),fb, .inl,tb] [] 11 (by kernel_rfl) rfl (by exact trivial) (ca (show S 256 [.agg [N .u64 a1,N .u64 a2]] [] (.agg [N .u64 a2,N .u64 a1]) []from fh) (ca (show S 256 [.agg [N .u64 a3,N .u64 a4]] [] (.agg [N .u64 a4,N .u64 a3]) []from fh) (ca (show decide ((0:Int)<2)=true from rfl) (ca (show(0:Int)≤0∧0<((2:Nat):Int)from by decide) (ca (show(0:Int)≤0∧0<((2:Nat):Int)from by decide) (ca h0 (ca (show(0:Int)≤0∧0<((2:Nat):Int)from by decide) (ca (show(N .u64 r6:SV)=N .u64 r6 from rfl) (ca (show(N .u64 r6:SV)=N .u64 r6 from rfl) (ca (show aj .i64 1 from by decide) (ca (show decide ((1:Int)<2)=true from rfl) (ca (show(0:Int)≤1∧1<((2:Nat):Int)from by decide) (ca (show(0:Int)≤1∧1<((2:Nat):Int)from by decide) (ca h1 (ca (show(0:Int)≤1∧1<((2:Nat):Int)from by decide) (ca (show(N .u64 r8:SV)=N .u64 r8 from rfl) (ca (show(N .u64 r8:SV)=N .u64 r8 from rfl) (ca (show aj .i64 2 from by decide) (ca (show decide ((2:Int)<2)=false from rfl) (ca (show(0:Int)≤1∧1<((2:Nat):Int)from by decide) (ca (show(0:Int)≤0∧0<((2:Nat):Int)from by decide) (ca (Go.Sx.Bo (beq_eq_false_iff_ne.2 h2)) na))))))))))))))))))))))
theorem zb {a1 a2 a3 a4 r5 r6 r7 r8:Int} (h0:CI Tryz.prog 242 [N .u64 a2,N .u64 a4,N .u64 0] (.af [N .u64 r5,N .u64 r6])) (h1:CI Tryz.prog 242 [N .u64 a1,N .u64 a3,N .u64 r6] (.af [N .u64 r7,N .u64 r8])) (h2:r8=0):
  S 224 [.agg [N .u64 a1,N .u64 a2], .agg [N .u64 a3,N .u64 a4]] [] (.af [.agg [N .u64 r7,N .u64 r5],I 0]) []:=
 ab.path 134 [.inl, .draw 6 [] 0, .call [] (.agg [N .u64 a2,N .u64 a1]) [], .call [] (.agg [N .u64 a4,N .u64 a3]) [],tb, .draw 14 [12] 1, .ext (.af [N .u64 r5,N .u64 r6]),tb, .draw 14 [12] 1, .ext (.af [N .u64 r7,N .u64 r8]),fb, .inl,fb] [] 11 (by kernel_rfl) rfl (by exact trivial) (ca (show S 256 [.agg [N .u64 a1,N .u64 a2]] [] (.agg [N .u64 a2,N .u64 a1]) []from fh) (ca (show S 256 [.agg [N .u64 a3,N .u64 a4]] [] (.agg [N .u64 a4,N .u64 a3]) []from fh) (ca (show decide ((0:Int)<2)=true from rfl) (ca (show(0:Int)≤0∧0<((2:Nat):Int)from by decide) (ca (show(0:Int)≤0∧0<((2:Nat):Int)from by decide) (ca h0 (ca (show(0:Int)≤0∧0<((2:Nat):Int)from by decide) (ca (show(N .u64 r6:SV)=N .u64 r6 from rfl) (ca (show(N .u64 r6:SV)=N .u64 r6 from rfl) (ca (show aj .i64 1 from by decide) (ca (show decide ((1:Int)<2)=true from rfl) (ca (show(0:Int)≤1∧1<((2:Nat):Int)from by decide) (ca (show(0:Int)≤1∧1<((2:Nat):Int)from by decide) (ca h1 (ca (show(0:Int)≤1∧1<((2:Nat):Int)from by decide) (ca (show(N .u64 r8:SV)=N .u64 r8 from rfl) (ca (show(N .u64 r8:SV)=N .u64 r8 from rfl) (ca (show aj .i64 2 from by decide) (ca (show decide ((2:Int)<2)=false from rfl) (ca (show(0:Int)≤1∧1<((2:Nat):Int)from by decide) (ca (show(0:Int)≤0∧0<((2:Nat):Int)from by decide) (ca (Go.Sx.tu (beq_iff_eq.2 h2)) na))))))))))))))))))))))
theorem y3 {x y:Nat} (h:x+y<340282366920938463463374607431768211456):ab Tryz.prog GL 224 [dR x,dR y] [] (.af [dR (x+y),I 0]) []:=by
 have h0:= @B5 _ (x%18446744073709551616) (y%18446744073709551616) 0 (by decide)
 have h1:= @B5 _ (x/18446744073709551616) (y/18446744073709551616) ((x%18446744073709551616+y%18446744073709551616+0)/18446744073709551616) (by omega)
 have h2:=zb h0 h1 (by omega)
 rw[show(x/18446744073709551616+y/18446744073709551616+(x%18446744073709551616+y%18446744073709551616+0)/18446744073709551616)%18446744073709551616=(x+y)/18446744073709551616 by omega,
  show(x%18446744073709551616+y%18446744073709551616+0)%18446744073709551616=(x+y)%18446744073709551616 by omega]at h2
 exact h2
theorem sN {a1 a2 a3 r4 r5 r6 r7:Int} (h0:a3≠0) (h1:S 244 [N .u64 0,N .u64 a1,N .u64 a3] [] (.af [N .u64 r4,N .u64 r5]) []) (h2:S 244 [N .u64 r5,N .u64 a2,N .u64 a3] [] (.af [N .u64 r6,N .u64 r7]) []):
  S 225 [.agg [N .u64 a1,N .u64 a2],N .u64 a3] [] (.af [.agg [N .u64 r4,N .u64 r6],N .u64 r7,I 0]) []:=
 ab.path 101 [fb, .inl, .call [] (.af [N .u64 r4,N .u64 r5]) [], .inl, .call [] (.af [N .u64 r6,N .u64 r7]) [], .draw 4 [3] 1] [] 4 (by kernel_rfl) rfl (by exact trivial) (ca (beq_eq_false_iff_ne.2 h0) (ca h1 (ca h2 (ca (show(N .u64 r7:SV)=N .u64 r7 from rfl) (ca (show(N .u64 r7:SV)=N .u64 r7 from rfl) na)))))
theorem B3 {x d:Nat} (hd:d≠0) (hx:x<18446744073709551616):ab Tryz.prog GL 244 [N .u64 0,N .u64 (x:Int),N .u64 (d:Int)] [] (.af [N .u64 ((x/d:Nat):Int),N .u64 ((x%d:Nat):Int)]) []:=by
 have h:=Nat.div_le_self x d
 exact xc (by omega) (by omega) rfl (by omega) (by omega) (by rw[show((x:Int)/(d:Int))=((x/d:Nat):Int)by simp];generalize x/d=q at*;simp only[aj];omega)
theorem yY {x d:Nat} (hd:d≠0) (hx:x<18446744073709551616):ab Tryz.prog GL 225 [dR x,N .u64 (d:Int)] [] (.af [dR (x/d),N .u64 ((x%d:Nat):Int),I 0]) []:=by
 have h0:= @B3 _ 0 d hd (by decide)
 rw[Nat.zero_div,Nat.zero_mod]at h0
 have h:=Nat.div_le_self x d
 grind [B3,rm,sN]
end Go.Proofs.YtelidogcomffkaaGreatDoor
namespace Go.Proofs.YtelidogcomffkaaGreatDoor
open Go Go.Sx
variable [Env]
theorem xX {a1 a2:Int} (h0:a2=0):
  S 200 [N .u64 a1,N .u64 a2] [] (N .u64 a1) []:=
 ab.path 19 [tb] [] 0 (by kernel_rfl) rfl (by exact trivial) (ca (beq_iff_eq.2 h0) na)
noncomputable def eJ (x1:Int) (x2:Int):SC:=
 ⟨[⟨200,[some (N .u64 x1),some (N .u64 x2),none,none,none,none,none,none,none,none,none,none],[.code (.seq .skip (aa Tryz.f200 [1,0,1])), .inScope (aa Tryz.f200 [1,0])],{}⟩],[]⟩
theorem xW {X:Cx} {res:SV} {new:List (Option Vw)} {a1 a2:Int} (hX:Fi X 200 [] res new) (h0:a2≠0) (h1:(0:Int)≤a1) (h2:(0:Int)<a2) (k:Ok X (eJ a2 (a1%a2))):
  Ok X (entry Tryz.prog 200 [N .u64 a1,N .u64 a2] []):=
 Ok.bg 20 [fb, .draw 5 [] 0] [[true,true,false,false,false,false,false,false,false,false,false,false]] [] 0 hX.P hX.gl hX.n0 (by kernel_rfl) (by kernel_rfl) (by exact trivial) (ca (beq_eq_false_iff_ne.2 h0) (ca h1 (ca h2 na))) k
theorem xV {X:Cx} {x1 x2:Int} (hX:Fi X 200 [] (N .u64 x1) []) (h0:x2=0):
  Ok X (eJ x1 x2):=
 Ok.fin 14 [tb] [] 0 hX (by kernel_rfl) rfl (ca (beq_iff_eq.2 h0) na)
theorem xU {X:Cx} {res:SV} {new:List (Option Vw)} {x1 x2:Int} (hX:Fi X 200 [] res new) (h0:x2≠0) (h1:(0:Int)≤x1) (h2:(0:Int)<x2) (k:Ok X (eJ x2 (x1%x2))):
  Ok X (eJ x1 x2):=
 Ok.bg 15 [fb, .draw 5 [] 0] [[true,true,false,false,false,false,false,false,false,false,false,false]] [] 0 hX.P hX.gl hX.n0 (by kernel_rfl) (by kernel_rfl) (by exact trivial) (ca (beq_eq_false_iff_ne.2 h0) (ca h1 (ca h2 na))) k
theorem Cj {X:Cx} {g:Nat} (hX:av X Tryz.prog GL 200 [] (N .u64 (g:Int)) []): ∀ (m a b:Nat),b≤m→Nat.gcd a b=g→Ok X (eJ (a:Int) (b:Int)):=by
 intro m
 induction m with
 |zero=>
  grind [xV]
 |succ m ih=>
  intro a b hm hg
  by_cases h:b=0
  ·grind
  ·have h1:=Nat.mod_lt a (Nat.pos_of_ne_zero h)
   refine xU hX (by omega) (by omega) (by omega) ?_
   refine ih b (a%b) (by omega) ?_
   rw[←hg,Nat.gcd_comm a b,Nat.gcd_rec b a,Nat.gcd_comm]
theorem FY (a b:Nat):ab Tryz.prog GL 200 [N .u64 (a:Int),N .u64 (b:Int)] [] (N .u64 ((Nat.gcd a b:Nat):Int)) []:=by
 by_cases h:b=0
 ·grind [xX]
 ·refine ab.of (by kernel_rfl) rfl trivial rfl (fun X hX=> ?_)
  refine xW hX (by omega) (by omega) (by omega) ?_
  refine Cj hX (a%b) b (a%b) (Nat.le_refl _) ?_
  rw[Nat.gcd_comm a b,Nat.gcd_rec b a,Nat.gcd_comm]
theorem wB {a1 a2 a3 a4 r5 r6 r7:Int} (h0:S 223 [N .u64 4611686018427387904] [] (.agg [N .u64 r5,N .u64 r6]) []) (h1:S 239 [.agg [N .u64 a1,N .u64 a2], .agg [N .u64 r5,N .u64 r6]] [] (I r7) []) (h2:r7>0):
  S 222 [.agg [N .u64 a1,N .u64 a2], .agg [N .u64 a3,N .u64 a4]] [] (.af [.agg [I 0,I 0],I 6]) []:=
 ab.path 34 [.call [] (.agg [N .u64 r5,N .u64 r6]) [], .call [] (I r7) [],tb,tb,tb,tb,tb,tb] [] 4 (by kernel_rfl) rfl (by exact trivial) (ca h0 (ca h1 (ca (dt h2) (ca (dt h2) (ca (dt h2) (ca (dt h2) (ca (dt h2) (ca rt na))))))))
theorem wA {a1 a2 a3 a4 r5 r6 r7 r8:Int} (h0:S 223 [N .u64 4611686018427387904] [] (.agg [N .u64 r5,N .u64 r6]) []) (h1:S 239 [.agg [N .u64 a1,N .u64 a2], .agg [N .u64 r5,N .u64 r6]] [] (I r7) []) (h2: ¬r7>0) (h3:S 239 [.agg [N .u64 a3,N .u64 a4], .agg [N .u64 r5,N .u64 r6]] [] (I r8) []) (h4:r8>0):
  S 222 [.agg [N .u64 a1,N .u64 a2], .agg [N .u64 a3,N .u64 a4]] [] (.af [.agg [I 0,I 0],I 6]) []:=
 ab.path 34 [.call [] (.agg [N .u64 r5,N .u64 r6]) [], .call [] (I r7) [],fb,fb,fb, .call [] (I r8) [],fb,fb,tb] [] 4 (by kernel_rfl) rfl (by exact trivial) (ca h0 (ca h1 (ca (df h2) (ca (df h2) (ca (df h2) (ca h3 (ca (df h2) (ca (df h2) (ca (dt h4) na)))))))))
theorem wz {a1 a2 a3 a4 r5 r6 r7 r8:Int} (h0:S 223 [N .u64 4611686018427387904] [] (.agg [N .u64 r5,N .u64 r6]) []) (h1:S 239 [.agg [N .u64 a1,N .u64 a2], .agg [N .u64 r5,N .u64 r6]] [] (I r7) []) (h2: ¬r7>0) (h3:S 239 [.agg [N .u64 a3,N .u64 a4], .agg [N .u64 r5,N .u64 r6]] [] (I r8) []) (h4: ¬r8>0) (h5:aj .i64 a2) (h6:aj .i64 a4):
  S 222 [.agg [N .u64 a1,N .u64 a2], .agg [N .u64 a3,N .u64 a4]] [] (.af [.agg [I a2,I a4],I 0]) []:=
 ab.path 41 [.call [] (.agg [N .u64 r5,N .u64 r6]) [], .call [] (I r7) [],fb,fb,fb, .call [] (I r8) [],fb,fb,fb] [] 4 (by kernel_rfl) rfl (by exact trivial) (ca h0 (ca h1 (ca (df h2) (ca (df h2) (ca (df h2) (ca h3 (ca (df h2) (ca (df h2) (ca (df h4) (ca h5 (ca h6 na)))))))))))
def Ls (n d:Nat):Int×Int×Int:=if n>4611686018427387904∨d>4611686018427387904 then(0,0,6)else((n:Int),(d:Int),0)
theorem GX (n d:Nat):ab Tryz.prog GL 222 [dR n,dR d] [] (RT (Ls n d)) []:=by
 have c0:= @qC _ 4611686018427387904 (by decide)
 have c1:=uK n 4611686018427387904
 have c2:=uK d 4611686018427387904
 have hc: ∀ x:Nat,cX (x:Int) ((4611686018427387904:Nat):Int)>0↔x>4611686018427387904:=by
  intro x;unfold cX;split<;>(try split)<;>omega
 unfold Ls
 by_cases h1:n>4611686018427387904
 ·grind [wB]
 ·by_cases h2:d>4611686018427387904
  ·grind [wA]
  ·rw[if_neg (by omega)]
   have h:= @wz _ ((n/18446744073709551616:Nat):Int) ((n%18446744073709551616:Nat):Int) ((d/18446744073709551616:Nat):Int) ((d%18446744073709551616:Nat):Int) _ _ _ _ c0 c1 (fun h=>h1 ((hc _).1 h)) c2 (fun h=>h2 ((hc _).1 h)) (by simp only[aj];omega) (by simp only[aj];omega)
   grind
theorem xS {a1 a2 r3 r4 r5 r6 r7 r8 r9 r10:Int} (h0: ¬a1<0) (h1: ¬a2<0) (h2:a2≠0) (h3:aj .u64 a1) (h4:aj .u64 a2) (h5:S 200 [N .u64 a1,N .u64 a2] [] (N .u64 r3) []) (h6:(0:Int)≤a1) (h7:(0:Int)<r3) (h8:aj .u64 (a1/r3)) (h9:S 223 [N .u64 (a1/r3)] [] (.agg [N .u64 r4,N .u64 r5]) []) (h10:(0:Int)≤a2) (h11:aj .u64 (a2/r3)) (h12:S 223 [N .u64 (a2/r3)] [] (.agg [N .u64 r6,N .u64 r7]) []) (h13:S 222 [.agg [N .u64 r4,N .u64 r5], .agg [N .u64 r6,N .u64 r7]] [] (.af [.agg [I r8,I r9],I r10]) []):
  S 191 [I a1,I a2] [] (.af [.agg [I r8,I r9],I r10]) []:=
 ab.path 41 [fb,fb,fb,fb,fb, .call [] (N .u64 r3) [], .draw 13 [] 0, .call [] (.agg [N .u64 r4,N .u64 r5]) [], .call [] (.agg [N .u64 r6,N .u64 r7]) [], .call [] (.af [.agg [I r8,I r9],I r10]) []] [] 1 (by kernel_rfl) rfl (by exact trivial) (ca (df h0) (ca (df h0) (ca (df h0) (ca (df h1) (ca (beq_eq_false_iff_ne.2 h2) (ca h3 (ca h4 (ca h5 (ca h3 (ca h6 (ca h7 (ca h8 (ca h9 (ca h4 (ca h10 (ca h7 (ca h11 (ca h12 (ca h13 na)))))))))))))))))))
theorem Hn (n d:Nat):Br n d=Ls (n/Nat.gcd n d) (d/Nat.gcd n d):=rfl
theorem G1 {n d:Nat} (hn:n<9223372036854775808) (hd:d<9223372036854775808) (hd0:d≠0):ab Tryz.prog GL 191 [I (n:Int),I (d:Int)] [] (RT (Br n d)) []:=by
 have hg0:Nat.gcd n d≠0:=fun h=>hd0 (Nat.eq_zero_of_gcd_eq_zero_right h)
 have e1:(n:Int)/((Nat.gcd n d:Nat):Int)=((n/Nat.gcd n d:Nat):Int):=by simp
 have e2:(d:Int)/((Nat.gcd n d:Nat):Int)=((d/Nat.gcd n d:Nat):Int):=by simp
 have l1:=Nat.div_le_self n (Nat.gcd n d)
 have l2:=Nat.div_le_self d (Nat.gcd n d)
 have c:=GX (n/Nat.gcd n d) (d/Nat.gcd n d)
 have c1:= @qC _ (n/Nat.gcd n d) (by omega)
 have c2:= @qC _ (d/Nat.gcd n d) (by omega)
 have c0:=FY n d
 rw[←Hn]at c
 rw[←e1]at c1
 rw[←e2]at c2
 refine xS (by omega) (by omega) (by omega) (by simp only[aj];omega) (by simp only[aj];omega) c0 (by omega) (by omega) ?_ c1 (by omega) ?_ c2 c
 ·rw[e1];generalize n/Nat.gcd n d=q at*;simp only[aj];omega
 ·rw[e2];generalize d/Nat.gcd n d=q at*;simp only[aj];omega
theorem xY {a1 a2 a3 a4 r5 r6 r7 r8 r9 r10 r11 r12 r13 r14 r15 r16 r17 r18 r19 r20 r21 r22 r23 r24 r25 r26:Int} (h0:aj .u64 a2) (h1:aj .u64 a4) (h2:S 200 [N .u64 a2,N .u64 a4] [] (N .u64 r5) []) (h3:aj .u64 a1) (h4:(0:Int)≤a4) (h5:(0:Int)<r5) (h6:aj .u64 (a4/r5)) (h7:S 202 [N .u64 a1,N .u64 (a4/r5)] [] (.agg [N .u64 r6,N .u64 r7]) []) (h8:aj .u64 a3) (h9:(0:Int)≤a2) (h10:aj .u64 (a2/r5)) (h11:S 202 [N .u64 a3,N .u64 (a2/r5)] [] (.agg [N .u64 r8,N .u64 r9]) []) (h12:S 224 [.agg [N .u64 r6,N .u64 r7], .agg [N .u64 r8,N .u64 r9]] [] (.af [.agg [N .u64 r10,N .u64 r11],I r12]) []) (h13:S 225 [.agg [N .u64 r10,N .u64 r11],N .u64 r5] [] (.af [.agg [N .u64 r13,N .u64 r14],N .u64 r15,I r16]) []) (h14:S 200 [N .u64 r15,N .u64 r5] [] (N .u64 r17) []) (h15:S 225 [.agg [N .u64 r10,N .u64 r11],N .u64 r17] [] (.af [.agg [N .u64 r18,N .u64 r19],N .u64 r20,I r21]) []) (h16:(0:Int)<r17) (h17:aj .u64 (a4/r17)) (h18:S 202 [N .u64 (a2/r5),N .u64 (a4/r17)] [] (.agg [N .u64 r22,N .u64 r23]) []) (h19:S 222 [.agg [N .u64 r18,N .u64 r19], .agg [N .u64 r22,N .u64 r23]] [] (.af [.agg [I r24,I r25],I r26]) []):
  S 195 [.agg [I a1,I a2], .agg [I a3,I a4]] [] (.af [.agg [I r24,I r25],I r26]) []:=
 ab.path 59 [.draw 7 [] 0, .call [] (N .u64 r5) [], .draw 19 [17] 1, .call [] (.agg [N .u64 r6,N .u64 r7]) [], .call [] (.agg [N .u64 r8,N .u64 r9]) [], .call [] (.af [.agg [N .u64 r10,N .u64 r11],I r12]) [], .call [] (.af [.agg [N .u64 r13,N .u64 r14],N .u64 r15,I r16]) [], .call [] (N .u64 r17) [], .call [] (.af [.agg [N .u64 r18,N .u64 r19],N .u64 r20,I r21]) [], .draw 11 [] 0, .call [] (.agg [N .u64 r22,N .u64 r23]) [], .call [] (.af [.agg [I r24,I r25],I r26]) []] [] 5 (by kernel_rfl) rfl (by exact trivial) (ca h0 (ca h1 (ca h2 (ca h3 (ca h4 (ca h5 (ca h6 (ca h7 (ca h8 (ca h9 (ca h5 (ca h10 (ca h11 (ca h12 (ca (re (I r12)) (ca (re (I r12)) (ca h13 (ca h14 (ca h15 (ca h9 (ca h5 (ca h10 (ca h4 (ca h16 (ca h17 (ca h18 (ca h19 na)))))))))))))))))))))))))))
theorem FC {a p b q:Nat} (hp:p≠0) (hq:q≠0) (ha:Nat.Coprime a p) (hb:Nat.Coprime b q):
  Nat.gcd (a*q+b*p) (p*q)=Nat.gcd p q*Nat.gcd (a*(q/Nat.gcd p q)+b*(p/Nat.gcd p q)) (Nat.gcd p q):=by
 have hg:0<Nat.gcd p q:=Nat.pos_of_ne_zero fun h=>hp (Nat.eq_zero_of_gcd_eq_zero_left h)
 obtain⟨p',hp'⟩:=Nat.gcd_dvd_left p q
 obtain⟨q',hq'⟩:=Nat.gcd_dvd_right p q
 have hc:=Nat.coprime_div_gcd_div_gcd hg
 generalize Nat.gcd p q=g at*
 subst hp' hq'
 rw[Nat.mul_div_cancel_left _ hg,Nat.mul_div_cancel_left _ hg]at*
 have ha':Nat.Coprime a p':=Nat.Coprime.coprime_dvd_right (Nat.dvd_mul_left _ _) ha
 have hb':Nat.Coprime b q':=Nat.Coprime.coprime_dvd_right (Nat.dvd_mul_left _ _) hb
 have h1:Nat.Coprime p' (a*q'+b*p'):=by
  rw[Nat.coprime_comm]
  show Nat.gcd _ _=1
  rw[Nat.gcd_add_mul_right_left]
  exact Nat.Coprime.mul_left ha' (Nat.coprime_comm.1 hc)
 have h2:Nat.Coprime q' (a*q'+b*p'):=by
  rw[Nat.coprime_comm]
  show Nat.gcd _ _=1
  rw[Nat.gcd_mul_right_add_left]
  exact Nat.Coprime.mul_left hb' hc
 rw[show a*(g*q')+b*(g*p')=g*(a*q'+b*p')by rw[Nat.mul_add,Nat.mul_left_comm,Nat.mul_left_comm b],Nat.mul_assoc g p' (g*q'),Nat.gcd_mul_left]
 congr 1
 rw[Nat.Coprime.gcd_mul_left_cancel_right _ h1,Nat.Coprime.gcd_mul_right_cancel_right _ h2]
theorem G2 {a p b q:Nat} (hp:p≠0) (hq:q≠0) (ha:Nat.Coprime a p) (hb:Nat.Coprime b q) (ha1:a<9223372036854775808) (hb1:b<9223372036854775808) (hp1:p<9223372036854775808) (hq1:q<9223372036854775808) (hs:a*(q/Nat.gcd p q)+b*(p/Nat.gcd p q)<18446744073709551616):
  ab Tryz.prog GL 195 [.agg [I (a:Int),I (p:Int)], .agg [I (b:Int),I (q:Int)]] [] (RT (Br (a*q+b*p) (p*q))) []:=by
 have hg:0<Nat.gcd p q:=Nat.pos_of_ne_zero fun h=>hp (Nat.eq_zero_of_gcd_eq_zero_left h)
 have hsum:=FC hp hq ha hb
 have l1:=Nat.div_le_self q (Nat.gcd p q)
 have l2:=Nat.div_le_self p (Nat.gcd p q)
 have c2:=FY p q
 have c7:= @eT _ a (q/Nat.gcd p q) (by omega) (by omega)
 have c11:= @eT _ b (p/Nat.gcd p q) (by omega) (by omega)
 have c12:= @y3 _ (a*(q/Nat.gcd p q)) (b*(p/Nat.gcd p q)) (by omega)
 have c13:= @yY _ (a*(q/Nat.gcd p q)+b*(p/Nat.gcd p q)) (Nat.gcd p q) (by omega) (by omega)
 have c14:=FY ((a*(q/Nat.gcd p q)+b*(p/Nat.gcd p q))%Nat.gcd p q) (Nat.gcd p q)
 have hh:Nat.gcd ((a*(q/Nat.gcd p q)+b*(p/Nat.gcd p q))%Nat.gcd p q) (Nat.gcd p q)=Nat.gcd (a*(q/Nat.gcd p q)+b*(p/Nat.gcd p q)) (Nat.gcd p q):=by
  rw[←Nat.gcd_rec,Nat.gcd_comm]
 rw[hh]at c14
 have hh0:0<Nat.gcd (a*(q/Nat.gcd p q)+b*(p/Nat.gcd p q)) (Nat.gcd p q):=Nat.pos_of_ne_zero fun h=>absurd (Nat.eq_zero_of_gcd_eq_zero_right h) (by omega)
 have hhd:Nat.gcd (a*(q/Nat.gcd p q)+b*(p/Nat.gcd p q)) (Nat.gcd p q)∣q:=Nat.dvd_trans (Nat.gcd_dvd_right _ _) (Nat.gcd_dvd_right p q)
 have hgp:=Nat.gcd_dvd_left p q
 have hgq:=Nat.gcd_dvd_right p q
 have l5:=Nat.div_le_self q (Nat.gcd (a*(q/Nat.gcd p q)+b*(p/Nat.gcd p q)) (Nat.gcd p q))
 have c15:= @yY _ (a*(q/Nat.gcd p q)+b*(p/Nat.gcd p q)) (Nat.gcd (a*(q/Nat.gcd p q)+b*(p/Nat.gcd p q)) (Nat.gcd p q)) (by omega) (by omega)
 have c18:= @eT _ (p/Nat.gcd p q) (q/Nat.gcd (a*(q/Nat.gcd p q)+b*(p/Nat.gcd p q)) (Nat.gcd p q)) (by omega) (by omega)
 have c19:=GX ((a*(q/Nat.gcd p q)+b*(p/Nat.gcd p q))/Nat.gcd (a*(q/Nat.gcd p q)+b*(p/Nat.gcd p q)) (Nat.gcd p q)) (p/Nat.gcd p q*(q/Nat.gcd (a*(q/Nat.gcd p q)+b*(p/Nat.gcd p q)) (Nat.gcd p q)))
 have e1:(q:Int)/((Nat.gcd p q:Nat):Int)=((q/Nat.gcd p q:Nat):Int):=by simp
 have e2:(p:Int)/((Nat.gcd p q:Nat):Int)=((p/Nat.gcd p q:Nat):Int):=by simp
 have e3: ∀ h:Nat,(q:Int)/(h:Int)=((q/h:Nat):Int):=fun h=>by simp
 rw[Hn,hsum]
 have hn:(a*q+b*p)/(Nat.gcd p q*Nat.gcd (a*(q/Nat.gcd p q)+b*(p/Nat.gcd p q)) (Nat.gcd p q))=(a*(q/Nat.gcd p q)+b*(p/Nat.gcd p q))/Nat.gcd (a*(q/Nat.gcd p q)+b*(p/Nat.gcd p q)) (Nat.gcd p q):=by
  rw[←Nat.div_div_eq_div_mul]
  congr 1
  exact Nat.div_eq_of_eq_mul_left hg (by rw[Nat.add_mul,Nat.mul_assoc,Nat.div_mul_cancel hgq,Nat.mul_assoc,Nat.div_mul_cancel hgp])
 have hd:p*q/(Nat.gcd p q*Nat.gcd (a*(q/Nat.gcd p q)+b*(p/Nat.gcd p q)) (Nat.gcd p q))=p/Nat.gcd p q*(q/Nat.gcd (a*(q/Nat.gcd p q)+b*(p/Nat.gcd p q)) (Nat.gcd p q)):=
  Nat.mul_div_mul_comm hgp hhd
 rw[hn,hd]
 generalize hG:Nat.gcd p q=g at*
 generalize hH:Nat.gcd (a*(q/g)+b*(p/g)) g=h at*
 rw[←e1]at c7
 rw[←e2]at c11 c18
 rw[←e3]at c18
 refine xY (by simp only[aj];omega) (by simp only[aj];omega) c2 (by simp only[aj];omega) (by omega) (by omega) ?_ c7 (by simp only[aj];omega) (by omega) ?_ c11 c12 c13 c14 c15 (by omega) ?_ c18 c19
 ·rw[e1];generalize q/g=x at*;simp only[aj];omega
 ·rw[e2];generalize p/g=x at*;simp only[aj];omega
 ·rw[e3];generalize q/h=x at*;simp only[aj];omega
end Go.Proofs.YtelidogcomffkaaGreatDoor
namespace Go.Proofs.YtelidogcomffkaaGreatDoor
open Go Go.Sx
variable [Env]
def bl (x:Int):Int:=if x≤0 then 0 else((x.toNat.log2+1:Nat):Int)
theorem gQ (x:Int):Wu x=x%18446744073709551616:=by
 show IntKind.wrap .u64 x=_
 simp[IntKind.wrap,IntKind.signed,IntKind.bits]
theorem J4 (s:Nat):(2:Int)^s=((2^s:Nat):Int):=by simp
theorem C0 {n s:Nat} (h:s≤64):bq .u64 (n:Int) (s:Int)=((n/2^s:Nat):Int):=by
 unfold bq
 rw[Int.toNat_natCast,show min s (IntKind.bits .u64)=s from Nat.min_eq_left h,J4,Int.fdiv_eq_ediv_of_nonneg _ (Int.natCast_nonneg _)]
 simp
theorem HU {n s:Nat} (h:s≤64):gO .u64 (n:Int) (s:Int)=((n*2^s%18446744073709551616:Nat):Int):=by
 unfold gO
 rw[Int.toNat_natCast,show min s (IntKind.bits .u64)=s from Nat.min_eq_left h,J4]
 grind [gQ]
theorem MK {a b s:Nat} (hb:b<2^s) (h:a*2^s+b<18446744073709551616):DP .u64 ((a*2^s:Nat):Int) (b:Int)=((a*2^s+b:Nat):Int):=by
 have h1:a*2^s<18446744073709551616:=by omega
 have h2:b<18446744073709551616:=by omega
 have e:a*2^s|||b=a*2^s+b:=by
  rw[Nat.mul_comm];exact(Nat.two_pow_add_eq_or_of_lt hb a).symm
 unfold DP
 have e1:BitVec.ofInt 64 ((a*2^s:Nat):Int)=BitVec.ofNat 64 (a*2^s):=BitVec.ofInt_natCast _ _
 have e2:BitVec.ofInt 64 (b:Int)=BitVec.ofNat 64 b:=BitVec.ofInt_natCast _ _
 show IntKind.wrap .u64 ((BitVec.ofInt 64 ((a*2^s:Nat):Int)|||BitVec.ofInt 64 (b:Int)).toNat:Int)=_
 rw[e1,e2,BitVec.toNat_or,BitVec.toNat_ofNat,BitVec.toNat_ofNat,Nat.mod_eq_of_lt h1,Nat.mod_eq_of_lt h2,e]
 exact bG (by simp only[aj];omega)
theorem uA {n:Nat} (h:n≠0):bl (n:Int)=((n.log2+1:Nat):Int):=by
 grind [bl]
theorem uz {n k:Nat} (h:2^k≤n):bl (n:Int)=bl ((n/2^k:Nat):Int)+(k:Int):=by
 have h0:0<2^k:=Nat.two_pow_pos k
 have h1:n/2^k≠0:=Nat.ne_of_gt (Nat.div_pos h h0)
 have hn:n≠0:=by omega
 rw[uA h1,uA hn]
 have e:n.log2=(n/2^k).log2+k:=by
  rw[Nat.log2_eq_iff hn]
  obtain⟨a,b⟩:=(Nat.log2_eq_iff h1).1 rfl
  constructor
  ·rw[Nat.pow_add]
   exact Nat.le_trans (Nat.mul_le_mul_right _ a) (Nat.div_mul_le_self n (2^k))
  ·rw[show(n/2^k).log2+k+1=((n/2^k).log2+1)+k by omega,Nat.pow_add]
   have:=(Nat.div_lt_iff_lt_mul h0).1 b
   exact this
 rw[e];omega
def oA:ByteArray:=⟨#[0,1,2,2,3,3,3,3,4,4,4,4,4,4,4,4,5,5,5,5,5,5,5,5,5,5,5,5,5,5,5,5,6,6,6,6,6,6,6,6,6,6,6,6,6,6,6,6,6,6,6,6,6,6,6,6,6,6,6,6,6,6,6,6,7,7,7,7,7,7,7,7,7,7,7,7,7,7,7,7,7,7,7,7,7,7,7,7,7,7,7,7,7,7,7,7,7,7,7,7,7,7,7,7,7,7,7,7,7,7,7,7,7,7,7,7,7,7,7,7,7,7,7,7,7,7,7,7,8,8,8,8,8,8,8,8,8,8,8,8,8,8,8,8,8,8,8,8,8,8,8,8,8,8,8,8,8,8,8,8,8,8,8,8,8,8,8,8,8,8,8,8,8,8,8,8,8,8,8,8,8,8,8,8,8,8,8,8,8,8,8,8,8,8,8,8,8,8,8,8,8,8,8,8,8,8,8,8,8,8,8,8,8,8,8,8,8,8,8,8,8,8,8,8,8,8,8,8,8,8,8,8,8,8,8,8,8,8,8,8,8,8,8,8,8,8,8,8,8,8,8,8,8,8,8,8]⟩
noncomputable def fu (x1:Int) (x2:Int):SC:=
 ⟨[⟨264,bJ 25 [(0,N .u64 x1),(2,I x2)],[.code (aa Tryz.f264 [1,1])],{}⟩],[]⟩
noncomputable def ft (x1:Int) (x2:Int):SC:=
 ⟨[⟨264,bJ 25 [(0,N .u64 x1),(2,I x2)],[.code (aa Tryz.f264 [1,1,1])],{}⟩],[]⟩
noncomputable def fp (x1:Int) (x2:Int):SC:=
 ⟨[⟨264,bJ 25 [(0,N .u64 x1),(2,I x2)],[.code (aa Tryz.f264 [1,1,1,1])],{}⟩],[]⟩
theorem vh {X:Cx} {a1:Int} {res:SV} (hX:Fi X 264 [] res []) (H:(a1≥4294967296→Ok X (fu (bq .u64 a1 32) 32))∧(¬a1≥4294967296→Ok X (fu a1 0))):
  Ok X (entry Tryz.prog 264 [N .u64 a1] []):=by
 obtain⟨H1,H2⟩:=H
 by_cases h0:a1≥4294967296
 ·exact hX.h 20 [t_ (dt h0),q_ (show(0:Int)≤32 from by decide)] (aA 0) (H1 h0)
 ·exact hX.h 12 [f_ (df h0)] (aA 0) (H2 h0)
theorem vg {X:Cx} {x1 x2:Int} {res:SV} (hX:Fi X 264 [] res []) (H:(x1≥65536→Ir (x2+16)∧Ok X (ft (bq .u64 x1 16) (x2+16)))∧(¬x1≥65536→Ok X (ft x1 x2))):
  Ok X (fu x1 x2):=by
 obtain⟨H1,H2⟩:=H
 by_cases h0:x1≥65536
 ·obtain⟨h1,k⟩:=H1 h0
  exact hX.h 18 [t_ (dt h0),q_ (show(0:Int)≤16 from by decide),q_ h1] (aA 0) k
 ·exact hX.h 8 [f_ (df h0)] (aA 0) (H2 h0)
theorem vf {X:Cx} {x1 x2:Int} {res:SV} (hX:Fi X 264 [] res []) (H:(x1≥256→Ir (x2+8)∧Ok X (fp (bq .u64 x1 8) (x2+8)))∧(¬x1≥256→Ok X (fp x1 x2))):
  Ok X (ft x1 x2):=by
 obtain⟨H1,H2⟩:=H
 by_cases h0:x1≥256
 ·obtain⟨h1,k⟩:=H1 h0
  exact hX.h 18 [t_ (dt h0),q_ (show(0:Int)≤8 from by decide),q_ h1] (aA 0) k
 ·exact hX.h 8 [f_ (df h0)] (aA 0) (H2 h0)
theorem vd {X:Cx} {x1 x2:Int} {res:SV} (hX:Fi X 264 [] res []) (H:aj .u8 x1∧((0:Int)≤x1∧x1<((oA.size:Nat):Int))∧Ir (bt oA x1)∧Ir (x2+(bt oA x1))∧I (x2+(bt oA x1))=res):
  Ok X (fp x1 x2):=by
 obtain⟨h0,h1,h2,h3,rfl⟩:=H
 exact hX.e [q_ h0,q_ h1,q_ h2,q_ h3]
theorem Lw: ∀ i,i<256→bt oA (i:Nat)=bl (i:Nat):=by decide+kernel
theorem D3:oA.size=256:=by decide+kernel
theorem Kg {x:Int} (h:jn x):S 264 [N .u64 x] [] (I (bl x)) []:=by
 obtain⟨n,rfl⟩: ∃ n:Nat,x=(n:Int):=⟨x.toNat,by simp only[jn,aj]at h;omega⟩
 have hn:n<18446744073709551616:=by simp only[jn,aj]at h;omega
 refine ab.of (by kernel_rfl) rfl trivial rfl (fun X hX=> ?_)
 have s3: ∀ (m:Nat) (k:Int),m<256→k+bl (m:Int)=bl (n:Int)→0≤k→k≤100→Ok X (fp (m:Int) k):=fun m k h1 h2 h3 h4=>by
  have e:=Lw m h1
  have hb:0≤bl (m:Int)∧bl (m:Int)≤8:=by
   by_cases h0:m=0
   ·subst h0;decide
   ·rw[uA h0]
    have:m.log2<8:=(Nat.log2_lt h0).2 h1
    omega
  refine vd hX ⟨by simp only[aj];omega,by rw[D3];omega,by rw[e];simp only[Ir,aj];omega,by rw[e];simp only[Ir,aj];omega,by rw[e,h2]⟩
 have s2: ∀ (m:Nat) (k:Int),m<65536→k+bl (m:Int)=bl (n:Int)→0≤k→k≤90→Ok X (ft (m:Int) k):=fun m k h1 h2 h3 h4=>by
  refine vf hX ⟨fun c=>⟨by simp only[Ir,aj];omega, ?_⟩,fun c=>s3 m k (by omega) h2 h3 (by omega)⟩
  have e:=uz (n:=m) (k:=8) (by omega)
  have:= @C0 _ m 8 (by decide)
  rw[show((8:Nat):Int)=8 from rfl]at this e
  rw[this]
  exact s3 (m/2^8) (k+8) (by omega) (by omega) (by omega) (by omega)
 have s1: ∀ (m:Nat) (k:Int),m<4294967296→k+bl (m:Int)=bl (n:Int)→0≤k→k≤40→Ok X (fu (m:Int) k):=fun m k h1 h2 h3 h4=>by
  refine vg hX ⟨fun c=>⟨by simp only[Ir,aj];omega, ?_⟩,fun c=>s2 m k (by omega) h2 h3 (by omega)⟩
  have e:=uz (n:=m) (k:=16) (by omega)
  have:= @C0 _ m 16 (by decide)
  rw[show((16:Nat):Int)=16 from rfl]at this e
  rw[this]
  exact s2 (m/2^16) (k+16) (by omega) (by omega) (by omega) (by omega)
 refine vh hX ⟨fun c=> ?_,fun c=>s1 n 0 (by omega) (by omega) (by omega) (by omega)⟩
 have e:=uz (n:=n) (k:=32) (by omega)
 have:= @C0 _ n 32 (by decide)
 rw[show((32:Nat):Int)=32 from rfl]at this e
 rw[this]
 exact s1 (n/2^32) 32 (by omega) (by omega) (by omega) (by omega)
theorem KB {n:Nat} (h:n<18446744073709551616):0≤bl (n:Int)∧bl (n:Int)≤64:=by
 by_cases h0:n=0
 ·subst h0;decide
 ·rw[uA h0]
  have:n.log2<64:=(Nat.log2_lt h0).2 h
  omega
theorem mu {a1:Int} {res:SV} (H:jn a1∧Ir (64-(bl a1))∧I (64-(bl a1))=res):
  S 257 [N .u64 a1] [] res []:=by
 refine ab.st fun X hX=> ?_
 obtain⟨h0,h1,rfl⟩:=H
 exact hX.e [c_ [] (show S 264 [N .u64 a1] [] (I (bl a1)) []from Kg h0),q_ h1]
theorem Lt {x:Int} (h:jn x):S 257 [N .u64 x] [] (I (64-bl x)) []:=by
 have hb:0≤bl x∧bl x≤64:=by
  obtain⟨n,rfl⟩: ∃ n:Nat,x=(n:Int):=⟨x.toNat,by simp only[jn,aj]at h;omega⟩
  exact KB (by simp only[jn,aj]at h;omega)
 exact mu ⟨h,by simp only[Ir,aj];omega,rfl⟩
noncomputable def ec (x1:Int) (x2:Int) (x3:Int) (x4:Int) (x5:Int) (x6:Int) (x7:Int) (x8:Int) (x9:Int):SC:=
 ⟨[⟨244,bJ 135 [(2,N .u64 x1),(8,N .u64 x2),(9,N .u64 x3),(10,N .u64 x4),(11,N .u64 x5),(13,N .u64 x6),(14,N .u64 x7),(15,N .u64 x8),(16,N .u64 x9)],[.code (aa Tryz.f244 [1,1,1,1,1,1,1,1,1,1,1,1,1,1,0,0,0]), .inLoop (aa Tryz.f244 [1,1,1,1,1,1,1,1,1,1,1,1,1,1,0,0,0]), .inBlock 0, .code (aa Tryz.f244 [1,1,1,1,1,1,1,1,1,1,1,1,1,1,1])],{}⟩],[]⟩
noncomputable def dj (x1:Int) (x2:Int) (x3:Int) (x4:Int) (x5:Int) (x6:Int) (x7:Int) (x8:Int):SC:=
 ⟨[⟨244,bJ 135 [(2,N .u64 x1),(8,N .u64 x2),(9,N .u64 x3),(10,N .u64 x4),(11,N .u64 x5),(13,N .u64 x6),(14,N .u64 x7),(15,N .u64 x8)],[.code (aa Tryz.f244 [1,1,1,1,1,1,1,1,1,1,1,1,1,1,1])],{}⟩],[]⟩
noncomputable def di (x1:Int) (x2:Int) (x3:Int) (x4:Int) (x5:Int) (x6:Int) (x7:Int) (x8:Int) (x9:Int):SC:=
 ⟨[⟨244,bJ 135 [(2,N .u64 x1),(8,N .u64 x2),(9,N .u64 x3),(10,N .u64 x4),(14,N .u64 x5),(15,N .u64 x6),(16,N .u64 x7),(17,N .u64 x8),(18,N .u64 x9)],[.code (aa Tryz.f244 [1,1,1,1,1,1,1,1,1,1,1,1,1,1,1,1,1,1,0,0,0]), .inLoop (aa Tryz.f244 [1,1,1,1,1,1,1,1,1,1,1,1,1,1,1,1,1,1,0,0,0]), .inBlock 2, .code (aa Tryz.f244 [1,1,1,1,1,1,1,1,1,1,1,1,1,1,1,1,1,1,1])],{}⟩],[]⟩
noncomputable def dh (x1:Int) (x2:Int) (x3:Int) (x4:Int) (x5:Int) (x6:Int):SC:=
 ⟨[⟨244,bJ 135 [(2,N .u64 x1),(8,N .u64 x2),(14,N .u64 x3),(15,N .u64 x4),(17,N .u64 x5),(18,N .u64 x6)],[.code (aa Tryz.f244 [1,1,1,1,1,1,1,1,1,1,1,1,1,1,1,1,1,1,1])],{}⟩],[]⟩
theorem vn {X:Cx} {a1 a2 a3:Int} {res:SV} (hX:Fi X 244 [] res []) (H:(a3=0→False)∧(a3≠0→(a3≤a1→False)∧(¬a3≤a1→(a1=0→(0:Int)≤a2∧(0:Int)<a3∧jn (a2/a3)∧(SV.af [N .u64 (a2/a3),N .u64 (a2%a3)])=res)∧(a1≠0→jn a3∧jn (64-bl a3)∧(0:Int)≤(64-bl a3)∧(0:Int)≤(Wu (64-(64-bl a3)))∧(0:Int)≤(DP .u64 (gO .u64 a1 (64-bl a3)) (bq .u64 a2 (Wu (64-(64-bl a3)))))∧(0:Int)<(bq .u64 (gO .u64 a3 (64-bl a3)) 32)∧jn ((DP .u64 (gO .u64 a1 (64-bl a3)) (bq .u64 a2 (Wu (64-(64-bl a3)))))/(bq .u64 (gO .u64 a3 (64-bl a3)) 32))∧Ok X (ec (gO .u64 a3 (64-bl a3)) (64-bl a3) (bq .u64 (gO .u64 a3 (64-bl a3)) 32) (dr .u64 (gO .u64 a3 (64-bl a3)) 4294967295) (DP .u64 (gO .u64 a1 (64-bl a3)) (bq .u64 a2 (Wu (64-(64-bl a3))))) (bq .u64 (gO .u64 a2 (64-bl a3)) 32) (dr .u64 (gO .u64 a2 (64-bl a3)) 4294967295) ((DP .u64 (gO .u64 a1 (64-bl a3)) (bq .u64 a2 (Wu (64-(64-bl a3)))))/(bq .u64 (gO .u64 a3 (64-bl a3)) 32)) (Wu ((DP .u64 (gO .u64 a1 (64-bl a3)) (bq .u64 a2 (Wu (64-(64-bl a3)))))-(Wu (((DP .u64 (gO .u64 a1 (64-bl a3)) (bq .u64 a2 (Wu (64-(64-bl a3)))))/(bq .u64 (gO .u64 a3 (64-bl a3)) 32))*(bq .u64 (gO .u64 a3 (64-bl a3)) 32)))))))))):
  Ok X (entry Tryz.prog 244 [N .u64 a1,N .u64 a2,N .u64 a3] []):=by
 obtain⟨H1,H2⟩:=H
 by_cases h0:a3=0
 ·exact(H1 h0).elim
 ·obtain⟨H1,H2⟩:=H2 h0
  refine hX.go [f_ (beq_eq_false_iff_ne.2 h0)] ?_
  by_cases h1:a3≤a1
  ·exact(H1 h1).elim
  ·obtain⟨H1,H2⟩:=H2 h1
   refine hX.go [f_ (df h1)] ?_
   by_cases h2:a1=0
   ·obtain⟨h3,h4,h5,rfl⟩:=H1 h2
    exact hX.e [t_ (beq_iff_eq.2 h2),q_ h3,q_ h4,q_ h5,q_ h3,q_ h4,d_ 7]
   ·obtain⟨h3,h4,h5,h6,h7,h8,h9,k⟩:=H2 h2
    exact hX.h 78 [f_ (beq_eq_false_iff_ne.2 h2),c_ [] (show S 257 [N .u64 a3] [] (I (64-bl a3)) []from Lt h3),q_ h4,q_ h5,q_ (show(0:Int)≤32 from by decide),q_ h5,q_ h6,q_ h5,q_ (show(0:Int)≤32 from by decide),q_ h7,q_ h8,q_ h9,h_ [.w, .w, .w]] (aA 0) k
theorem vm {X:Cx} {x1 x2 x3 x4 x5 x6 x7 x8 x9:Int} {res:SV} (hX:Fi X 244 [] res []) (H:(x8≥4294967296→((Wu (x9+x3))≥4294967296→Ok X (dj x1 x2 x3 x4 x5 x6 x7 (Wu (x8-1))))∧(¬(Wu (x9+x3))≥4294967296→Ok X (ec x1 x2 x3 x4 x5 x6 x7 (Wu (x8-1)) (Wu (x9+x3)))))∧(¬x8≥4294967296→((Wu (x8*x4))>(Wu ((Wu (4294967296*x9))+x6))→((Wu (x9+x3))≥4294967296→Ok X (dj x1 x2 x3 x4 x5 x6 x7 (Wu (x8-1))))∧(¬(Wu (x9+x3))≥4294967296→Ok X (ec x1 x2 x3 x4 x5 x6 x7 (Wu (x8-1)) (Wu (x9+x3)))))∧(¬(Wu (x8*x4))>(Wu ((Wu (4294967296*x9))+x6))→Ok X (dj x1 x2 x3 x4 x5 x6 x7 x8)))):
  Ok X (ec x1 x2 x3 x4 x5 x6 x7 x8 x9):=by
 obtain⟨H1,H2⟩:=H
 by_cases h0:x8≥4294967296
 ·obtain⟨H1,H2⟩:=H1 h0
  refine hX.go [t_ (dt h0),t_ (dt h0),t_ (dt h0),t_ (dt h0),t_ (dt h0),t_ (dt h0),t_ (dt h0),t_ (dt h0),t_ (dt h0),t_ rt,h_ [.w, .w]] ?_
  by_cases h1:(Wu (x9+x3))≥4294967296
  ·exact hX.h 2 [t_ (dt h1)] (aA 0) (H1 h1)
  ·exact hX.h 4 [f_ (df h1)] (aA 0) (H2 h1)
 ·obtain⟨H1,H2⟩:=H2 h0
  refine hX.go [f_ (df h0),f_ (df h0),f_ (df h0),h_ [.w],f_ (df h0),f_ (df h0),h_ [.w],f_ (df h0),f_ (df h0),h_ [.w],f_ (df h0),f_ (df h0)] ?_
  by_cases h1:(Wu (x8*x4))>(Wu ((Wu (4294967296*x9))+x6))
  ·obtain⟨H1,H2⟩:=H1 h1
   refine hX.go [t_ (dt h1),h_ [.w, .w]] ?_
   by_cases h2:(Wu (x9+x3))≥4294967296
   ·exact hX.h 2 [t_ (dt h2)] (aA 0) (H1 h2)
   ·exact hX.h 4 [f_ (df h2)] (aA 0) (H2 h2)
  ·exact hX.h 2 [f_ (df h1)] (aA 0) (H2 h1)
theorem vk {X:Cx} {x1 x2 x3 x4 x5 x6 x7 x8:Int} {res:SV} (hX:Fi X 244 [] res []) (H:(0:Int)≤(Wu ((Wu ((Wu (x5*4294967296))+x6))-(Wu (x8*x1))))∧(0:Int)<x3∧jn ((Wu ((Wu ((Wu (x5*4294967296))+x6))-(Wu (x8*x1))))/x3)∧Ok X (di x1 x2 x3 x4 x7 x8 (Wu ((Wu ((Wu ((Wu (x5*4294967296))+x6))-(Wu (x8*x1))))-(Wu (((Wu ((Wu ((Wu (x5*4294967296))+x6))-(Wu (x8*x1))))/x3)*x3)))) (Wu ((Wu ((Wu (x5*4294967296))+x6))-(Wu (x8*x1)))) ((Wu ((Wu ((Wu (x5*4294967296))+x6))-(Wu (x8*x1))))/x3))):
  Ok X (dj x1 x2 x3 x4 x5 x6 x7 x8):=by
 obtain⟨h0,h1,h2,k⟩:=H
 exact hX.h 31 [q_ h0,q_ h1,q_ h2,h_ [.w, .w, .w, .w, .w, .w]] (aA 0) k
theorem vj {X:Cx} {x1 x2 x3 x4 x5 x6 x7 x8 x9:Int} {res:SV} (hX:Fi X 244 [] res []) (H:(x9≥4294967296→((Wu (x7+x3))≥4294967296→Ok X (dh x1 x2 x5 x6 x8 (Wu (x9-1))))∧(¬(Wu (x7+x3))≥4294967296→Ok X (di x1 x2 x3 x4 x5 x6 (Wu (x7+x3)) x8 (Wu (x9-1)))))∧(¬x9≥4294967296→((Wu (x9*x4))>(Wu ((Wu (4294967296*x7))+x5))→((Wu (x7+x3))≥4294967296→Ok X (dh x1 x2 x5 x6 x8 (Wu (x9-1))))∧(¬(Wu (x7+x3))≥4294967296→Ok X (di x1 x2 x3 x4 x5 x6 (Wu (x7+x3)) x8 (Wu (x9-1)))))∧(¬(Wu (x9*x4))>(Wu ((Wu (4294967296*x7))+x5))→Ok X (dh x1 x2 x5 x6 x8 x9)))):
  Ok X (di x1 x2 x3 x4 x5 x6 x7 x8 x9):=by
 obtain⟨H1,H2⟩:=H
 by_cases h0:x9≥4294967296
 ·obtain⟨H1,H2⟩:=H1 h0
  refine hX.go [t_ (dt h0),t_ (dt h0),t_ (dt h0),t_ (dt h0),t_ (dt h0),t_ (dt h0),t_ (dt h0),t_ (dt h0),t_ (dt h0),t_ rt,h_ [.w, .w]] ?_
  by_cases h1:(Wu (x7+x3))≥4294967296
  ·exact hX.h 2 [t_ (dt h1)] (aA 0) (H1 h1)
  ·exact hX.h 4 [f_ (df h1)] (aA 0) (H2 h1)
 ·obtain⟨H1,H2⟩:=H2 h0
  refine hX.go [f_ (df h0),f_ (df h0),f_ (df h0),h_ [.w],f_ (df h0),f_ (df h0),h_ [.w],f_ (df h0),f_ (df h0),h_ [.w],f_ (df h0),f_ (df h0)] ?_
  by_cases h1:(Wu (x9*x4))>(Wu ((Wu (4294967296*x7))+x5))
  ·obtain⟨H1,H2⟩:=H1 h1
   refine hX.go [t_ (dt h1),h_ [.w, .w]] ?_
   by_cases h2:(Wu (x7+x3))≥4294967296
   ·exact hX.h 2 [t_ (dt h2)] (aA 0) (H1 h2)
   ·exact hX.h 4 [f_ (df h2)] (aA 0) (H2 h2)
  ·exact hX.h 2 [f_ (df h1)] (aA 0) (H2 h1)
theorem vi {X:Cx} {x1 x2 x3 x4 x5 x6:Int} {res:SV} (hX:Fi X 244 [] res []) (H:(0:Int)≤x2∧(SV.af [N .u64 (Wu ((Wu (x4*4294967296))+x6)),N .u64 (bq .u64 (Wu ((Wu ((Wu (x5*4294967296))+x3))-(Wu (x6*x1)))) x2)])=res):
  Ok X (dh x1 x2 x3 x4 x5 x6):=by
 obtain⟨h0,rfl⟩:=H
 exact hX.e [q_ h0,h_ [.w, .w, .w, .w, .w, .w]]
theorem Ed {y1 y0 u v qh r:Nat} (hi:qh*y1+r=u) (hY:0<y1*4294967296+y0):(u*4294967296+v)/(y1*4294967296+y0)<qh↔r*4294967296+v<qh*y0:=by
 rw[Nat.div_lt_iff_lt_mul hY,Nat.mul_add,←Nat.mul_assoc]
 omega
theorem Ec {y1 y0 u v:Nat} (h1:2147483648≤y1) (h0:y0<4294967296) (hu:u<y1*4294967296+y0) (hv:v<4294967296):
  (u*4294967296+v)/(y1*4294967296+y0)≤u/y1∧u/y1≤4294967297∧(u*4294967296+v)/(y1*4294967296+y0)<4294967296:=by
 have hY:0<y1*4294967296+y0:=by omega
 refine⟨?_, ?_, ?_⟩
 ·rw[Nat.le_div_iff_mul_le (by omega)]
  have hq:=Nat.div_mul_le_self (u*4294967296+v) (y1*4294967296+y0)
  grind
 ·have:u<4294967298*y1:=by omega
  have:=(Nat.div_lt_iff_lt_mul (show 0<y1 by omega)).2 this
  omega
 ·exact(Nat.div_lt_iff_lt_mul hY).2 (by omega)
theorem Gd {y1 y0 u v qh r:Nat} (h0:y0<4294967296) (hi:qh*y1+r=u) (hq:qh≤4294967296) (hr:4294967296≤r) (hY:0<y1*4294967296+y0):qh≤(u*4294967296+v)/(y1*4294967296+y0):=by
 rcases Nat.lt_or_ge ((u*4294967296+v)/(y1*4294967296+y0)) qh with h|h
 ·exfalso
  have h1:=(Ed hi hY).1 h
  have h2:qh*y0≤4294967296*4294967295:=Nat.mul_le_mul hq (by omega)
  omega
 ·exact h
theorem BD {F:Nat→Nat→Prop} {J:Nat→Prop} {y1 y0 u v:Nat} (h1:2147483648≤y1) (h2:y1<4294967296) (h0:y0<4294967296) (hu:u<y1*4294967296+y0) (hv:v<4294967296)
  (step: ∀ qh r:Nat,qh≤4294967297→r<4294967296→qh*y1+r=u→(qh≥4294967296∨r*4294967296+v<qh*y0→1≤qh→(r+y1≥4294967296→J (qh-1))∧(r+y1<4294967296→F (qh-1) (r+y1)))→(¬(qh≥4294967296∨r*4294967296+v<qh*y0)→J qh)→F qh r)
  (hJ:J ((u*4294967296+v)/(y1*4294967296+y0))):F (u/y1) (u%y1):=by
 have hY:0<y1*4294967296+y0:=by omega
 obtain⟨k1,k2,k3⟩:=Ec h1 h0 hu hv
 have key: ∀ m qh r:Nat,qh-(u*4294967296+v)/(y1*4294967296+y0)=m→(u*4294967296+v)/(y1*4294967296+y0)≤qh→qh≤4294967297→r<4294967296→qh*y1+r=u→F qh r:=by
  intro m
  induction m with
  |zero=>
   intro qh r hm hq hq2 hr hi
   have e:qh=(u*4294967296+v)/(y1*4294967296+y0):=by omega
   refine step qh r hq2 hr hi (fun c=> ?_) (fun _=>by rw[e];exact hJ)
   exfalso
   rcases c with c|c
   ·omega
   ·have:=(Ed hi hY).2 c;omega
  |succ m ih=>
   intro qh r hm hq hq2 hr hi
   have hlt:(u*4294967296+v)/(y1*4294967296+y0)<qh:=by omega
   have hq1:0<qh:=Nat.lt_of_le_of_lt (Nat.zero_le _) hlt
   have hi':(qh-1)*y1+(r+y1)=u:=by
    have:qh*y1=(qh-1)*y1+y1:=by
     conv=>lhs;rw[show qh=(qh-1)+1 by omega]
     rw[Nat.add_mul,Nat.one_mul]
    omega
   refine step qh r hq2 hr hi (fun _ _=>⟨fun c=> ?_,fun c=>ih (qh-1) (r+y1) (by omega) (by omega) (by omega) c hi'⟩) (fun c=>absurd (.inr ((Ed hi hY).1 hlt)) c)
   have:=Gd (v:=v) h0 hi' (by omega) c hY
   rwa [show qh-1=(u*4294967296+v)/(y1*4294967296+y0)by omega]
 refine key _ _ _ rfl k1 k2 ?_ ?_
 ·exact Nat.lt_trans (Nat.mod_lt _ (by omega)) h2
 ·rw[Nat.mul_comm];exact Nat.div_add_mod u y1
theorem HJ {n:Nat} (h:n<18446744073709551616):Wu (n:Int)=(n:Int):=by rw[gQ];omega
theorem BC {qh r y1 y0 v:Nat} (hq:qh≤4294967297) (hr:r<4294967296) (h2:y1<4294967296) (h0:y0<4294967296) (hv:v<4294967296):
  Wu ((r:Int)+(y1:Int))=((r+y1:Nat):Int)∧(1≤qh→Wu ((qh:Int)-1)=((qh-1:Nat):Int))∧Wu (Wu (4294967296*(r:Int))+(v:Int))=((r*4294967296+v:Nat):Int)∧(qh<4294967296→Wu ((qh:Int)*(y0:Int))=((qh*y0:Nat):Int)):=by
 refine⟨by rw[gQ];omega,fun h=>by rw[gQ];omega,by rw[gQ,gQ];omega,fun h=> ?_⟩
 have:qh*y0≤4294967295*4294967295:=Nat.mul_le_mul (by omega) (by omega)
 rw[show(qh:Int)*(y0:Int)=((qh*y0:Nat):Int)by simp]
 exact HJ (by omega)
theorem CQ {u v p:Nat} (h1:p≤u*4294967296+v) (h2:u*4294967296+v-p<18446744073709551616) (hv:v<4294967296):
  Wu (Wu (Wu ((u:Int)*4294967296)+(v:Int))-Wu (p:Int))=((u*4294967296+v-p:Nat):Int):=by
 grind [gQ]
theorem Hv {h l d:Nat} (hd:h<d) (hd2:d<18446744073709551616) (hl:l<18446744073709551616):
  S 244 [N .u64 (h:Int),N .u64 (l:Int),N .u64 (d:Int)] [] (.af [N .u64 (((h*18446744073709551616+l)/d:Nat):Int),N .u64 (((h*18446744073709551616+l)%d:Nat):Int)]) []:=by
 refine ab.of (by kernel_rfl) rfl trivial rfl (fun X hX=> ?_)
 have hd0:d≠0:=by omega
 refine vn hX ⟨fun c=>by omega,fun _=>⟨fun c=>by omega,fun _=>⟨fun c=> ?_,fun c=> ?_⟩⟩⟩
 ·have:h=0:=by omega
  subst this
  refine⟨by omega,by omega, ?_, ?_⟩
  ·have:=Nat.div_le_self l d
   rw[←Int.natCast_ediv];generalize l/d=q at*;simp only[jn,aj];omega
  simp_all
 ·
  have hlog:d.log2<64:=(Nat.log2_lt hd0).2 hd2
  obtain⟨g1,g2⟩:=(Nat.log2_eq_iff hd0).1 (rfl:d.log2=d.log2)
  obtain⟨s,hs⟩: ∃ s:Nat,s=63-d.log2:=⟨_,rfl⟩
  have es:64-bl (d:Int)=(s:Int):=by rw[uA hd0];omega
  have p1:2^d.log2*2^s=9223372036854775808:=by rw[←Nat.pow_add,show d.log2+s=63 by omega]
  have p2:2^s*2^(64-s)=18446744073709551616:=by rw[←Nat.pow_add,show s+(64-s)=64 by omega]
  have hps:0<2^s:=Nat.two_pow_pos s
  have hps2:0<2^(64-s):=Nat.two_pow_pos _
  have hY1:9223372036854775808≤d*2^s:=by rw[←p1];exact Nat.mul_le_mul_right _ g1
  have hY2:d*2^s<18446744073709551616:=by
   have:=Nat.mul_lt_mul_of_pos_right g2 hps
   grind
  have hlo:l/2^(64-s)<2^s:=by rw[Nat.div_lt_iff_lt_mul hps2,p2];exact hl
  have hu:h*2^s+l/2^(64-s)<d*2^s:=by
   have:(h+1)*2^s≤d*2^s:=Nat.mul_le_mul_right _ hd
   grind
  have hl10:l*2^s=l/2^(64-s)*18446744073709551616+l*2^s%18446744073709551616:=by
   have e1:l*2^s/18446744073709551616=l/2^(64-s):=by rw[←p2,Nat.mul_comm l,Nat.mul_div_mul_left _ _ hps]
   omega
  have hall:(h*18446744073709551616+l)*2^s=(h*2^s+l/2^(64-s))*18446744073709551616+l*2^s%18446744073709551616:=by
   grind
  have r1:gO .u64 (d:Int) (s:Int)=((d*2^s:Nat):Int):=by rw[HU (by omega),Nat.mod_eq_of_lt hY2]
  have r2:Wu (64-(s:Int))=((64-s:Nat):Int):=by rw[gQ];omega
  have r3:DP .u64 (gO .u64 (h:Int) (s:Int)) (bq .u64 (l:Int) ((64-s:Nat):Int))=((h*2^s+l/2^(64-s):Nat):Int):=by
   rw[HU (by omega),C0 (by omega),Nat.mod_eq_of_lt (by omega)]
   exact MK hlo (by omega)
  rw[es,r1,r2,r3,HU (n:=l) (by omega),sZ,sZ,yR hY2,yR (Nat.mod_lt _ (by decide))]
  have hYs:d*2^s=d*2^s/4294967296*4294967296+d*2^s%4294967296:=by omega
  have hLs:l*2^s%18446744073709551616=l*2^s%18446744073709551616/4294967296*4294967296+l*2^s%18446744073709551616%4294967296:=by omega
  have y1a:2147483648≤d*2^s/4294967296:=by omega
  have y1b:d*2^s/4294967296<4294967296:=by omega
  have y0b:d*2^s%4294967296<4294967296:=by omega
  have v1:l*2^s%18446744073709551616/4294967296<4294967296:=by omega
  have v0:l*2^s%18446744073709551616%4294967296<4294967296:=by omega
  rw[hYs]at hu
  generalize hY:d*2^s=Y at*
  generalize hU:h*2^s+l/2^(64-s)=u at*
  generalize hL:l*2^s%18446744073709551616=L at*
  generalize hy1:Y/4294967296=y1 at*
  generalize hy0:Y%4294967296=y0 at*
  generalize hv1:L/4294967296=w1 at*
  generalize hv0:L%4294967296=w0 at*
  have hYp:0<y1*4294967296+y0:=by omega
  obtain⟨k1,k2,k3⟩:=Ec y1a y0b hu v1
  have dm1:=Nat.div_add_mod (u*4294967296+w1) (y1*4294967296+y0)
  have ml1:=Nat.mod_lt (u*4294967296+w1) hYp
  obtain⟨q1,hq1⟩: ∃ q,(u*4294967296+w1)/(y1*4294967296+y0)=q:=⟨_,rfl⟩
  obtain⟨r1',hr1⟩: ∃ q,(u*4294967296+w1)%(y1*4294967296+y0)=q:=⟨_,rfl⟩
  rw[hq1,hr1]at dm1
  rw[hr1]at ml1
  rw[hq1]at k1 k3
  have dm2:=Nat.div_add_mod (r1'*4294967296+w0) (y1*4294967296+y0)
  have ml2:=Nat.mod_lt (r1'*4294967296+w0) hYp
  obtain⟨m1,m2,m3⟩:=Ec y1a y0b ml1 v0
  obtain⟨q0,hq0⟩: ∃ q,(r1'*4294967296+w0)/(y1*4294967296+y0)=q:=⟨_,rfl⟩
  obtain⟨r0,hr0⟩: ∃ q,(r1'*4294967296+w0)%(y1*4294967296+y0)=q:=⟨_,rfl⟩
  rw[hq0,hr0]at dm2
  rw[hr0]at ml2
  rw[hq0]at m1 m3
  have hfin:Ok X (dh (Y:Int) (s:Int) (w0:Int) (q1:Int) (r1':Int) (q0:Int)):=by
   refine vi hX ⟨by omega, ?_⟩
   have e1:Wu (Wu ((q1:Int)*4294967296)+(q0:Int))=((q1*4294967296+q0:Nat):Int):=by rw[gQ,gQ];omega
   have e2:Wu (Wu (Wu ((r1':Int)*4294967296)+(w0:Int))-Wu ((q0:Int)*(Y:Int)))=((r0:Nat):Int):=by
    rw[show(q0:Int)*(Y:Int)=((q0*Y:Nat):Int)by simp]
    have ep:q0*Y=(y1*4294967296+y0)*q0:=by rw[←hYs,Nat.mul_comm]
    rw[CQ (by omega) (by omega) v0]
    omega
   rw[e1,e2,C0 (by omega)]
   have hQ:(h*18446744073709551616+l)*2^s=(q1*4294967296+q0)*Y+r0:=by
    grind
   rw[←hY,←Nat.mul_assoc]at hQ
   have hdvd:2^s∣r0:=by
    have a1:2^s∣(q1*4294967296+q0)*d*2^s:=Nat.dvd_mul_left _ _
    have a2:2^s∣(q1*4294967296+q0)*d*2^s+r0:=by rw[←hQ];exact Nat.dvd_mul_left _ _
    exact(Nat.dvd_add_right a1).1 a2
   obtain⟨t,ht⟩:=hdvd
   have hQ2:h*18446744073709551616+l=(q1*4294967296+q0)*d+t:=by
    grind
   have htd:t<d:=by
    rw[←hYs,←hY,ht,Nat.mul_comm (2^s)]at ml2
    exact Nat.lt_of_mul_lt_mul_right ml2
   have et:r0/2^s=t:=by rw[ht,Nat.mul_div_cancel_left _ hps]
   have f1:(h*18446744073709551616+l)/d=q1*4294967296+q0:=by
    rw[hQ2,Nat.mul_comm,Nat.mul_add_div (by omega),Nat.div_eq_of_lt htd,Nat.add_zero]
   have f2:(h*18446744073709551616+l)%d=t:=by
    rw[hQ2,Nat.mul_comm,Nat.mul_add_mod,Nat.mod_eq_of_lt htd]
   rw[f1,f2,et]
  have loop2:Ok X (di (Y:Int) (s:Int) (y1:Int) (y0:Int) (w0:Int) (q1:Int) ((r1'%y1:Nat):Int) (r1':Int) ((r1'/y1:Nat):Int)):=by
   refine BD (F:=fun qh r=>Ok X (di (Y:Int) (s:Int) (y1:Int) (y0:Int) (w0:Int) (q1:Int) (r:Int) (r1':Int) (qh:Int))) (J:=fun q=>Ok X (dh (Y:Int) (s:Int) (w0:Int) (q1:Int) (r1':Int) (q:Int))) (v:=w0) y1a y1b y0b ml1 v0 (fun qh r c1 c2 c3 c4 c5=> ?_) (by rw[hq0];exact hfin)
   obtain⟨t1,t2,t3,t4⟩:=BC (qh:=qh) (r:=r) (y1:=y1) (y0:=y0) (v:=w0) c1 c2 y1b y0b v0
   grind [vj]
  have mid:Ok X (dj (Y:Int) (s:Int) (y1:Int) (y0:Int) (u:Int) (w1:Int) (w0:Int) (q1:Int)):=by
   have e2:Wu (Wu (Wu ((u:Int)*4294967296)+(w1:Int))-Wu ((q1:Int)*(Y:Int)))=((r1':Nat):Int):=by
    rw[show(q1:Int)*(Y:Int)=((q1*Y:Nat):Int)by simp]
    have ep:q1*Y=(y1*4294967296+y0)*q1:=by rw[←hYs,Nat.mul_comm]
    rw[CQ (by omega) (by omega) v1]
    omega
   refine vk hX ?_
   rw[e2]
   have hle:r1'/y1*y1≤r1':=Nat.div_mul_le_self _ _
   have e3:Wu ((r1':Int)-Wu ((r1':Int)/(y1:Int)*(y1:Int)))=((r1'%y1:Nat):Int):=by
    rw[show(r1':Int)/(y1:Int)*(y1:Int)=((r1'/y1*y1:Nat):Int)by simp,gQ,gQ]
    have:=Nat.div_add_mod r1' y1
    grind
   rw[e3]
   refine⟨by omega,by omega, ?_, ?_⟩
   ·simp only[jn,aj];rw[←Int.natCast_ediv];omega
   simp_all
  have hle:u/y1*y1≤u:=Nat.div_mul_le_self _ _
  have e3:Wu ((u:Int)-Wu ((u:Int)/(y1:Int)*(y1:Int)))=((u%y1:Nat):Int):=by
   rw[show(u:Int)/(y1:Int)*(y1:Int)=((u/y1*y1:Nat):Int)by simp,gQ,gQ]
   have:=Nat.div_add_mod u y1
   grind
  rw[e3]
  refine⟨by simp only[jn,aj];omega,by simp only[jn,aj];omega,by omega,by omega,by omega,by omega, ?_, ?_⟩
  ·simp only[jn,aj];rw[←Int.natCast_ediv];omega
  ·have:=BD (F:=fun qh r=>Ok X (ec (Y:Int) (s:Int) (y1:Int) (y0:Int) (u:Int) (w1:Int) (w0:Int) (qh:Int) (r:Int))) (J:=fun q=>Ok X (dj (Y:Int) (s:Int) (y1:Int) (y0:Int) (u:Int) (w1:Int) (w0:Int) (q:Int))) (v:=w1) y1a y1b y0b hu v1 (fun qh r c1 c2 c3 c4 c5=>by
    obtain⟨t1,t2,t3,t4⟩:=BC (qh:=qh) (r:=r) (y1:=y1) (y0:=y0) (v:=w1) c1 c2 y1b y0b v1
    refine vm hX ⟨fun a=> ?_,fun a=> ?_⟩
    ·grind
    ·rw[t1,t3,t4 (by omega)]
     refine⟨fun a2=> ?_,fun a2=>c5 (fun z=>by rcases z with z|z<;>omega)⟩
     have hq1':1≤qh:=by
      grind
     obtain⟨b1,b2⟩:=c4 (.inr (by omega)) hq1'
     rw[t2 hq1']
     exact⟨fun b=>b1 (by omega),fun b=>b2 (by omega)⟩) (by rw[hq1];exact mid)
   simp_all
end Go.Proofs.YtelidogcomffkaaGreatDoor
