/-
Plain: numbers by digits of base 10000, as the document's answer holds them.
-/
import Derived.Test.YtgojmodiaffcbaaGreatDoorSC
import Derived.Test.YtgojmodiaffcbaaGreatDoorProg
import Derived.KernelRfl
import Derived.Laws.Externs
set_option linter.unusedSectionVars false
set_option linter.unusedSimpArgs false
set_option linter.unusedVariables false
set_option maxRecDepth 100000
namespace Go.Proofs.YtgojmodiaffcbaaGreatDoor
open Go Go.Sx
class Env where
 n0:Addr
 n1:Addr
 ne:n0≠n1
 more:List (Nat×Vw)
variable [Env]
def lens (i:Nat):Int:=[0,31,28,31,30,31,30,31,31,30,31,30,31].getD i 0
abbrev errS (a:Addr):Value:= .iface 265 (.pointer (some a))
def GL [Env]:List (Nat×Vw):=[(2,.row false 3 13 1 (fun i=>[I (lens i)])),(1,.box false [.val (.iface 206 (.agg #[.pointer (some ⟨9,147,none⟩)]))]),
 (5,.box false [.val (errS Env.n0)]),(6,.box false [.val (errS Env.n1)])]++(Env.more++[(Env.n0.block,.box true []),(Env.n1.block,.box true [])])
abbrev S:=SCall Tryz.prog GL
abbrev Fi (X:Cx):=IsFin X Tryz.prog GL
abbrev ri (n:Nat) (g:Nat→Int):Option Vw:=some (.row false 3 n 1 (fun i=>[I (g i)]))
abbrev ro (n:Nat) (g:Nat→Int):Option Vw:=some (.row true 3 n 1 (fun i=>[I (g i)]))
end Go.Proofs.YtgojmodiaffcbaaGreatDoor
namespace Go.Proofs.YtgojmodiaffcbaaGreatDoor
open Go Go.Sx
variable [Env]
def cmpI (a b:Int):Int:=if a<b then-1 else if b<a then 1 else 0
def mkR (n d:Nat):Int×Int×Int:=
 if n/Nat.gcd n d>4611686018427387904∨d/Nat.gcd n d>4611686018427387904 then(0,0,6)else(((n/Nat.gcd n d:Nat):Int),((d/Nat.gcd n d:Nat):Int),0)
abbrev RT (r:Int×Int×Int):SV:= .tup [.agg [I r.1,I r.2.1],I r.2.2]
theorem cmp_isNaN_uint64__0 {a1:Int}:
  S 209 [N .u64 a1] [] (B (a1 !=a1)) []:=
 SCall.path 11 [] [] 0 (by kernel_rfl) rfl (by exact trivial) na
theorem cmp_isNaN_u {a:Int}:SCall Tryz.prog GL 209 [N .u64 a] [] (B false) []:=by
 have h:= @cmp_isNaN_uint64__0 _ a
 rwa [bne_self_eq_false]at h
theorem cmp_isNaN_int__0 {a1:Int}:
  S 196 [I a1] [] (B (a1 !=a1)) []:=
 SCall.path 11 [] [] 0 (by kernel_rfl) rfl (by exact trivial) na
theorem cmp_isNaN_i {a:Int}:SCall Tryz.prog GL 196 [I a] [] (B false) []:=by
 have h:= @cmp_isNaN_int__0 _ a
 rwa [bne_self_eq_false]at h
theorem cmp_Compare_uint64__0 {a1 a2:Int} (h0:a1<a2):
  S 201 [N .u64 a1,N .u64 a2] [] (I (-1)) []:=
 SCall.path 42 [.call [] (B false) [],.call [] (B false) [],fb,fb,tb] [] 0 (by kernel_rfl) rfl (by exact trivial) (ca (show S 209 [N .u64 a1] [] (B false) []from cmp_isNaN_u) (ca (show S 209 [N .u64 a2] [] (B false) []from cmp_isNaN_u) (ca rf (ca rf (ca (dt h0) na)))))
theorem cmp_Compare_uint64__1 {a1 a2:Int} (h0: ¬a1<a2) (h1:a1>a2):
  S 201 [N .u64 a1,N .u64 a2] [] (I 1) []:=
 SCall.path 51 [.call [] (B false) [],.call [] (B false) [],fb,fb,fb,tb] [] 0 (by kernel_rfl) rfl (by exact trivial) (ca (show S 209 [N .u64 a1] [] (B false) []from cmp_isNaN_u) (ca (show S 209 [N .u64 a2] [] (B false) []from cmp_isNaN_u) (ca rf (ca rf (ca (df h0) (ca (dt h1) na))))))
theorem cmp_Compare_uint64__2 {a1 a2:Int} (h0: ¬a1<a2) (h1: ¬a1>a2):
  S 201 [N .u64 a1,N .u64 a2] [] (I 0) []:=
 SCall.path 52 [.call [] (B false) [],.call [] (B false) [],fb,fb,fb,fb] [] 0 (by kernel_rfl) rfl (by exact trivial) (ca (show S 209 [N .u64 a1] [] (B false) []from cmp_isNaN_u) (ca (show S 209 [N .u64 a2] [] (B false) []from cmp_isNaN_u) (ca rf (ca rf (ca (df h0) (ca (df h1) na))))))
theorem cmp_Compare_u {a b:Int}:SCall Tryz.prog GL 201 [N .u64 a,N .u64 b] [] (I (cmpI a b)) []:=by
 unfold cmpI
 split
 ·exact cmp_Compare_uint64__0 (by assumption)
 ·split
  ·exact cmp_Compare_uint64__1 (by assumption) (by assumption)
  ·exact cmp_Compare_uint64__2 (by assumption) (by assumption)
theorem cmp_Less_int__0 {a1 a2:Int}:
  S 180 [I a1,I a2] [] (B (decide (a1<a2))) []:=
 SCall.path 20 [.call [] (B false) [],fb,fb,fb,fb,fb,fb,fb,fb] [] 0 (by kernel_rfl) rfl (by exact trivial) (ca (show S 196 [I a1] [] (B false) []from cmp_isNaN_i) (ca rf (ca rf (ca rf (ca rf (ca rf (ca rf (ca rf (ca rf na)))))))))
theorem cmp_Less_i {a b:Int}:SCall Tryz.prog GL 180 [I a,I b] [] (B (decide (a<b))) []:=by
 cases h:decide (a<b)with
 |true=>have:= @cmp_Less_int__0 _ a b;simpa[h]using this
 |false=>have:= @cmp_Less_int__0 _ a b;simpa[h]using this
theorem wide_Of_0 {a1:Int}:
  S 173 [N .u64 a1] [] (.agg [N .u64 0,N .u64 a1]) []:=
 SCall.path 10 [] [] 1 (by kernel_rfl) rfl (by exact trivial) na
theorem wide_Of {a:Int}:SCall Tryz.prog GL 173 [N .u64 a] [] (.agg [N .u64 0,N .u64 a]) []:=wide_Of_0
theorem wide_Cmp_0 {a1 a2 a3 a4:Int} (h0:a1≠a3):
  S 185 [.agg [N .u64 a1,N .u64 a2],.agg [N .u64 a3,N .u64 a4]] [] (I (cmpI a1 a3)) []:=
 SCall.path 25 [tb,.call [] (I (cmpI a1 a3)) []] [] 2 (by kernel_rfl) rfl (by exact trivial) (ca (bne_iff_ne.2 h0) (ca (show S 201 [N .u64 a1,N .u64 a3] [] (I (cmpI a1 a3)) []from cmp_Compare_u) na))
theorem wide_Cmp_1 {a1 a2 a3 a4:Int} (h0:a1=a3):
  S 185 [.agg [N .u64 a1,N .u64 a2],.agg [N .u64 a3,N .u64 a4]] [] (I (cmpI a2 a4)) []:=
 SCall.path 26 [fb,.call [] (I (cmpI a2 a4)) []] [] 2 (by kernel_rfl) rfl (by exact trivial) (ca (bne_eq_false_iff_eq.2 h0) (ca (show S 201 [N .u64 a2,N .u64 a4] [] (I (cmpI a2 a4)) []from cmp_Compare_u) na))
def W2 (a b:Int):Int:=a*18446744073709551616+b
theorem wide_Cmp {a b c d:Int} (hb:InR .u64 b) (hd:InR .u64 d):
  SCall Tryz.prog GL 185 [.agg [N .u64 a,N .u64 b],.agg [N .u64 c,N .u64 d]] [] (I (cmpI (W2 a b) (W2 c d))) []:=by
 simp only[InR]at hb hd
 by_cases h:a=c
 ·have e:cmpI (W2 a b) (W2 c d)=cmpI b d:=by
   subst h
   unfold cmpI W2
   split<;>split<;>(try split)<;>(try split)<;>(first|rfl|omega)
  rw[e];exact wide_Cmp_1 h
 ·have e:cmpI (W2 a b) (W2 c d)=cmpI a c:=by
   unfold cmpI W2
   split<;>split<;>(try split)<;>(try split)<;>(first|rfl|omega)
  rw[e];exact wide_Cmp_0 h
theorem wide_halves_0 {a1 a2:Int}:
  S 202 [.agg [N .u64 a1,N .u64 a2]] [] (.agg [N .u64 a2,N .u64 a1]) []:=
 SCall.path 14 [] [] 2 (by kernel_rfl) rfl (by exact trivial) na
end Go.Proofs.YtgojmodiaffcbaaGreatDoor
namespace Go.Proofs.YtgojmodiaffcbaaGreatDoor
def dgN (v i:Nat):Nat:=v/10000^i%10000
def dg (v i:Nat):Int:=(dgN v i:Nat)
def ln (v:Nat):Nat:=if h:v=0 then 0 else ln (v/10000)+1
 termination_by v
 decreasing_by omega
theorem ln_zero:ln 0=0:=by rw[ln];simp
theorem ln_pos {v:Nat} (h:v≠0):ln v=ln (v/10000)+1:=by rw[ln];simp[h]
theorem B_pos (i:Nat):0<10000^i:=Nat.pos_of_ne_zero (by simp)
theorem lt_ln (v:Nat):v<10000^ln v:=by
 induction v using ln.induct with
 |case1=>simp[ln_zero]
 |case2 v h ih=>
  rw[ln_pos h,Nat.pow_succ]
  have:=Nat.div_add_mod v 10000
  have:=Nat.mod_lt v (show 0<10000 by decide)
  omega
theorem ln_le {v:Nat} (h:v≠0):10000^(ln v-1)≤v:=by
 induction v using ln.induct with
 |case1=>exact absurd rfl h
 |case2 v h' ih=>
  rw[ln_pos h']
  simp only[Nat.add_sub_cancel]
  by_cases h0:v/10000=0
  ·rw[h0,ln_zero];simp;omega
  ·have h1:=ih h0
   have h2:ln (v/10000)=(ln (v/10000)-1)+1:=by rw[ln_pos h0];simp
   rw[h2,Nat.pow_succ]
   omega
theorem pow_lt_iff {a b:Nat}:10000^a<10000^b↔a<b:=Nat.pow_lt_pow_iff_right (by decide)
theorem pow_le_iff {a b:Nat}:10000^a≤10000^b↔a≤b:=Nat.pow_le_pow_iff_right (by decide)
theorem ln_eq {v n:Nat} (h1:v<10000^n) (h2:n=0∨10000^(n-1)≤v):n=ln v:=by
 rcases h2 with rfl|h2
 ·simp at h1;subst h1;rw[ln_zero]
 ·have h3:=lt_ln v
  have h0:v≠0:=by have:=B_pos (n-1);omega
  have h4:=ln_le h0
  have h5:=pow_lt_iff.1 (Nat.lt_of_le_of_lt h2 h3)
  have h6:=pow_lt_iff.1 (Nat.lt_of_le_of_lt h4 h1)
  have h7:ln v≠0:=by rw[ln_pos h0];simp
  omega
theorem ln_le_iff {v n:Nat}:ln v≤n↔v<10000^n:=by
 constructor
 ·exact fun h=>Nat.lt_of_lt_of_le (lt_ln v) (pow_le_iff.2 h)
 ·intro h
  by_cases h0:v=0
  ·subst h0;rw[ln_zero];exact Nat.zero_le _
  ·have:=pow_lt_iff.1 (Nat.lt_of_le_of_lt (ln_le h0) h)
   omega
theorem ln5 {v:Nat} (h:v<100000000000000000000):ln v≤5:=ln_le_iff.2 h
theorem lt_ln_iff {v n:Nat}:n<ln v↔10000^n≤v:=by
 have:= @ln_le_iff v n;omega
theorem ln_mono {v w:Nat} (h:v≤w):ln v≤ln w:=ln_le_iff.2 (Nat.lt_of_le_of_lt h (lt_ln w))
theorem ln_mul (v w:Nat):ln (v*w)≤ln v+ln w:=by
 rw[ln_le_iff,Nat.pow_add]
 exact Nat.mul_lt_mul_of_lt_of_le (lt_ln v) (Nat.le_of_lt (lt_ln w)) (B_pos _)
theorem ln_add (v w:Nat):ln (v+w)≤max (ln v) (ln w)+1:=by
 rw[ln_le_iff,Nat.pow_succ]
 have h1:v<10000^max (ln v) (ln w):=ln_le_iff.1 (Nat.le_max_left _ _)
 have h2:w<10000^max (ln v) (ln w):=ln_le_iff.1 (Nat.le_max_right _ _)
 omega
theorem dgN_lt (v i:Nat):dgN v i<10000:=Nat.mod_lt _ (by decide)
theorem dg_nn (v i:Nat):0≤dg v i:=by unfold dg;omega
theorem dgN_out {v i:Nat} (h:ln v≤i):dgN v i=0:=by
 unfold dgN;rw[Nat.div_eq_of_lt (ln_le_iff.1 h)]
theorem dg_out {v i:Nat} (h:ln v≤i):dg v i=0:=by unfold dg;rw[dgN_out h];rfl
theorem mod_succ (v i:Nat):v%10000^(i+1)=v%10000^i+dgN v i*10000^i:=by
 rw[Nat.pow_succ,Nat.mod_mul];unfold dgN;rw[Nat.mul_comm (10000^i)]
theorem div_step (v i:Nat):v/10000^i/10000=v/10000^(i+1):=by
 rw[Nat.pow_succ,Nat.div_div_eq_div_mul]
def vl (f:Nat→Nat):Nat→Nat
 |0=>0
 |n+1=>vl f n+f n*10000^n
theorem vl_succ (f:Nat→Nat) (n:Nat):vl f (n+1)=vl f n+f n*10000^n:=rfl
theorem vl_congr {f g:Nat→Nat}: ∀ {n:Nat},(∀ i,i<n→f i=g i)→vl f n=vl g n
 |0,_=>rfl
 |n+1,h=>by
  unfold vl
  rw[vl_congr (n:=n) (fun i hi=>h i (by omega)),h n (by omega)]
theorem vl_lt {f:Nat→Nat}: ∀ {n:Nat},(∀ i,i<n→f i<10000)→vl f n<10000^n
 |0,_=>by simp[vl]
 |n+1,h=>by
  have h1:=vl_lt (n:=n) (fun i hi=>h i (by omega))
  have h2:=h n (by omega)
  unfold vl
  rw[Nat.pow_succ]
  have:f n*10000^n≤9999*10000^n:=Nat.mul_le_mul_right _ (by omega)
  omega
theorem vl_dg (v n:Nat):vl (dgN v) n=v%10000^n:=by
 induction n with
 |zero=>simp[vl,Nat.mod_one]
 |succ n ih=>rw[mod_succ,←ih];rfl
theorem vl_digit {f:Nat→Nat}: ∀ {n:Nat},(∀ i,i<n→f i<10000)→ ∀ i,i<n→f i=dgN (vl f n) i
 |0,_,i,hi=>by omega
 |n+1,h,i,hi=>by
  have h1:=vl_lt (f:=f) (n:=n) (fun i hi=>h i (by omega))
  unfold vl dgN
  by_cases h2:i=n
  ·subst h2
   rw[Nat.add_mul_div_right _ _ (B_pos i),Nat.div_eq_of_lt h1,Nat.zero_add,Nat.mod_eq_of_lt (h i hi)]
  ·have h3:=vl_digit (f:=f) (n:=n) (fun i hi=>h i (by omega)) i (by omega)
   rw[h3]
   unfold dgN
   have h4:10000^n=10000^i*(10000*10000^(n-i-1)):=by
    rw[←Nat.mul_assoc,←Nat.pow_succ,←Nat.pow_add];congr 1;omega
   rw[h4,show f n*(10000^i*(10000*10000^(n-i-1)))=10000^i*(10000*(f n*10000^(n-i-1)))by
    rw[←Nat.mul_assoc (f n),Nat.mul_comm (f n),Nat.mul_assoc,←Nat.mul_assoc (f n),Nat.mul_comm (f n) 10000,Nat.mul_assoc]]
   rw[Nat.add_mul_div_left _ _ (B_pos i),Nat.add_mul_mod_self_left]
theorem vl_set {f:Nat→Nat} {k x:Nat}: ∀ {n:Nat},k<n→vl (fun i=>if i=k then x else f i) n+f k*10000^k=vl f n+x*10000^k
 |0,h=>by omega
 |n+1,h=>by
  unfold vl
  by_cases h2:k=n
  ·subst h2
   rw[vl_congr (n:=k) (g:=f) (fun i hi=>by rw[if_neg (by omega)]),if_pos rfl]
   omega
  ·have:=vl_set (f:=f) (k:=k) (x:=x) (n:=n) (by omega)
   rw[if_neg (by omega)]
   omega
theorem vl_zero {f:Nat→Nat}: ∀ {n:Nat},(∀ i,i<n→f i=0)→vl f n=0
 |0,_=>rfl
 |n+1,h=>by
  unfold vl;rw[vl_zero (n:=n) (fun i hi=>h i (by omega)),h n (by omega)];simp
theorem mod_full {v i:Nat} (h:ln v≤i):v%10000^i=v:=Nat.mod_eq_of_lt (ln_le_iff.1 h)
theorem vl_cons (d:Nat) (f:Nat→Nat): ∀ n,vl (fun k=>if k<1 then d else f (k-1)) (1+n)=d+10000*vl f n
 |0=>by simp[vl]
 |n+1=>by
  rw[←Nat.add_assoc,vl_succ,vl_cons d f n,vl_succ,if_neg (by omega),show 1+n-1=n by omega,Nat.add_comm 1 n,Nat.pow_succ,Nat.mul_add]
  rw[Nat.mul_comm (10000^n),←Nat.mul_assoc,Nat.mul_comm (f n),Nat.mul_assoc];omega
theorem div_digit (a b j:Nat) (hb:0<b):let R:=a/10000^(j+1)%b*10000+dgN a j
  R/b=dgN (a/b) j∧R%b=a/10000^j%b∧R<b*10000:=by
 intro R
 have h1:a/10000^j=a/10000^(j+1)*10000+dgN a j:=by
  have:=Nat.div_add_mod (a/10000^j) 10000
  rw[div_step]at this;unfold dgN;omega
 have h2:=Nat.div_add_mod (a/10000^(j+1)) b
 have h3:a/10000^j=R+b*(a/10000^(j+1)/b*10000):=by
  rw[h1]
  show _=a/10000^(j+1)%b*10000+dgN a j+_
  rw[←Nat.mul_assoc]
  omega
 have h4:=Nat.mod_lt (a/10000^(j+1)) hb
 have h5:=dgN_lt a j
 have h6:R<b*10000:=by show a/10000^(j+1)%b*10000+dgN a j<_;omega
 refine⟨?_,?_,h6⟩
 ·unfold dgN
  rw[Nat.div_div_eq_div_mul,Nat.mul_comm b,←Nat.div_div_eq_div_mul,h3,Nat.add_mul_div_left _ _ hb]
  have:R/b<10000:=(Nat.div_lt_iff_lt_mul hb).2 (by rw[Nat.mul_comm];exact h6)
  rw[Nat.add_mul_mod_self_right,Nat.mod_eq_of_lt this]
 ·rw[h3,Nat.add_mul_mod_self_left]
end Go.Proofs.YtgojmodiaffcbaaGreatDoor
