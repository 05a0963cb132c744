import Derived.Test.YtelidogcomffkaaGreatDoorD64
import Derived.Test.YtelidogcomffkaaGreatDoorProg
import Derived.KernelRfl
import Derived.Laws.Externs
set_option linter.unusedSectionVars false
set_option linter.unusedSimpArgs false
set_option linter.unusedVariables false
set_option maxRecDepth 100000
namespace Go.Proofs.YtelidogcomffkaaGreatDoor
def cC (v i:Nat):Nat:=v/10000^i%10000
def dg (v i:Nat):Int:=(cC v i:Nat)
def ln (v:Nat):Nat:=if h:v=0 then 0 else ln (v/10000)+1
 termination_by v
 decreasing_by omega
theorem fm:ln 0=0:=by rw[ln];simp
theorem jK {v:Nat} (h:v≠0):ln v=ln (v/10000)+1:=by rw[ln];simp[h]
theorem yZ (i:Nat):0<10000^i:=Nat.pos_of_ne_zero (by simp)
theorem kB (v:Nat):v<10000^ln v:=by
 induction v using ln.induct with
 |case1=>simp[fm]
 |case2 v h ih=>
  rw[jK h,Nat.pow_succ]
  have:=Nat.div_add_mod v 10000
  have:=Nat.mod_lt v (show 0<10000 by decide)
  omega
theorem Ho {v:Nat} (h:v≠0):10000^(ln v-1)≤v:=by
 induction v using ln.induct with
 |case1=>exact absurd rfl h
 |case2 v h' ih=>
  rw[jK h']
  simp only[Nat.add_sub_cancel]
  by_cases h0:v/10000=0
  ·rw[h0,fm];simp;omega
  ·have h1:=ih h0
   have h2:ln (v/10000)=(ln (v/10000)-1)+1:=by rw[jK h0];simp
   rw[h2,Nat.pow_succ]
   omega
theorem pA {a b:Nat}:10000^a<10000^b↔a<b:=Nat.pow_lt_pow_iff_right (by decide)
theorem tm {a b:Nat}:10000^a≤10000^b↔a≤b:=Nat.pow_le_pow_iff_right (by decide)
theorem Hp {v n:Nat} (h1:v<10000^n) (h2:n=0∨10000^(n-1)≤v):n=ln v:=by
 rcases h2 with rfl|h2
 ·simp at h1;subst h1;rw[fm]
 ·have h3:=kB v
  have h0:v≠0:=by have:=yZ (n-1);omega
  have h4:=Ho h0
  have h5:=pA.1 (Nat.lt_of_le_of_lt h2 h3)
  have h6:=pA.1 (Nat.lt_of_le_of_lt h4 h1)
  have h7:ln v≠0:=by rw[jK h0];simp
  omega
theorem bc {v n:Nat}:ln v≤n↔v<10000^n:=by
 constructor
 ·exact fun h=>Nat.lt_of_lt_of_le (kB v) (tm.2 h)
 ·intro h
  by_cases h0:v=0
  ·subst h0;rw[fm];exact Nat.zero_le _
  ·have:=pA.1 (Nat.lt_of_le_of_lt (Ho h0) h)
   omega
theorem Fp {v:Nat} (h:v<100000000000000000000):ln v≤5:=bc.2 h
theorem qT {v n:Nat}:n<ln v↔10000^n≤v:=by
 have:= @bc v n;omega
theorem yr {v:Nat}:ln v=0↔v=0:=by
 constructor
 ·intro h;by_cases h0:v=0
  ·exact h0
  ·rw[jK h0]at h;simp at h
 ·rintro rfl;exact fm
theorem ed {v w:Nat} (h:v≤w):ln v≤ln w:=bc.2 (Nat.lt_of_le_of_lt h (kB w))
theorem ia (v w:Nat):ln (v*w)≤ln v+ln w:=by
 rw[bc,Nat.pow_add]
 exact Nat.mul_lt_mul_of_lt_of_le (kB v) (Nat.le_of_lt (kB w)) (yZ _)
theorem zN (v w:Nat):ln (v+w)≤max (ln v) (ln w)+1:=by
 rw[bc,Nat.pow_succ]
 have h1:v<10000^max (ln v) (ln w):=bc.1 (Nat.le_max_left _ _)
 have h2:w<10000^max (ln v) (ln w):=bc.1 (Nat.le_max_right _ _)
 omega
theorem iq (v i:Nat):cC v i<10000:=Nat.mod_lt _ (by decide)
theorem BK (v i:Nat):0≤dg v i:=by unfold dg;omega
theorem wV {v i:Nat} (h:ln v≤i):cC v i=0:=by
 unfold cC;rw[Nat.div_eq_of_lt (bc.1 h)]
theorem EB {v i:Nat} (h:ln v≤i):dg v i=0:=by unfold dg;rw[wV h];rfl
theorem mod_succ (v i:Nat):v%10000^(i+1)=v%10000^i+cC v i*10000^i:=by
 rw[Nat.pow_succ,Nat.mod_mul];unfold cC;rw[Nat.mul_comm (10000^i)]
theorem mZ (v i:Nat):v/10000^i/10000=v/10000^(i+1):=by
 rw[Nat.pow_succ,Nat.div_div_eq_div_mul]
def vl (f:Nat→Nat):Nat→Nat
 |0=>0
 |n+1=>vl f n+f n*10000^n
theorem pW (f:Nat→Nat) (n:Nat):vl f (n+1)=vl f n+f n*10000^n:=rfl
theorem mB {f g:Nat→Nat}: ∀ {n:Nat},(∀ i,i<n→f i=g i)→vl f n=vl g n
 |0,_=>rfl
 |n+1,h=>by
  unfold vl
  rw[mB (n:=n) (fun i hi=>h i (by omega)),h n (by omega)]
theorem xp {f:Nat→Nat}: ∀ {n:Nat},(∀ i,i<n→f i<10000)→vl f n<10000^n
 |0,_=>by simp[vl]
 |n+1,h=>by
  have h1:=xp (n:=n) (fun i hi=>h i (by omega))
  have h2:=h n (by omega)
  unfold vl
  rw[Nat.pow_succ]
  have:f n*10000^n≤9999*10000^n:=Nat.mul_le_mul_right _ (by omega)
  omega
theorem GF (v n:Nat):vl (cC v) n=v%10000^n:=by
 induction n with
 |zero=>simp[vl,Nat.mod_one]
 |succ n ih=>rw[mod_succ,←ih];rfl
theorem xq {f:Nat→Nat}: ∀ {n:Nat},(∀ i,i<n→f i<10000)→ ∀ i,i<n→f i=cC (vl f n) i
 |0,_,i,hi=>by omega
 |n+1,h,i,hi=>by
  have h1:=xp (f:=f) (n:=n) (fun i hi=>h i (by omega))
  unfold vl cC
  by_cases h2:i=n
  ·subst h2
   rw[Nat.add_mul_div_right _ _ (yZ i),Nat.div_eq_of_lt h1,Nat.zero_add,Nat.mod_eq_of_lt (h i hi)]
  ·have h3:=xq (f:=f) (n:=n) (fun i hi=>h i (by omega)) i (by omega)
   rw[h3]
   unfold cC
   have h4:10000^n=10000^i*(10000*10000^(n-i-1)):=by
    rw[←Nat.mul_assoc,←Nat.pow_succ,←Nat.pow_add];congr 1;omega
   rw[h4,show f n*(10000^i*(10000*10000^(n-i-1)))=10000^i*(10000*(f n*10000^(n-i-1)))by
    rw[←Nat.mul_assoc (f n),Nat.mul_comm (f n),Nat.mul_assoc,←Nat.mul_assoc (f n),Nat.mul_comm (f n) 10000,Nat.mul_assoc]]
   rw[Nat.add_mul_div_left _ _ (yZ i),Nat.add_mul_mod_self_left]
theorem CT {f:Nat→Nat} {k x:Nat}: ∀ {n:Nat},k<n→vl (fun i=>if i=k then x else f i) n+f k*10000^k=vl f n+x*10000^k
 |0,h=>by omega
 |n+1,h=>by
  unfold vl
  by_cases h2:k=n
  ·subst h2
   rw[mB (n:=k) (g:=f) (fun i hi=>by rw[if_neg (by omega)]),if_pos rfl]
   omega
  ·have:=CT (f:=f) (k:=k) (x:=x) (n:=n) (by omega)
   rw[if_neg (by omega)]
   omega
theorem AN {f:Nat→Nat}: ∀ {n:Nat},(∀ i,i<n→f i=0)→vl f n=0
 |0,_=>rfl
 |n+1,h=>by
  unfold vl;rw[AN (n:=n) (fun i hi=>h i (by omega)),h n (by omega)];simp
theorem fx {v i:Nat} (h:ln v≤i):v%10000^i=v:=Nat.mod_eq_of_lt (bc.1 h)
theorem AO (d:Nat) (f:Nat→Nat): ∀ n,vl (fun k=>if k<1 then d else f (k-1)) (1+n)=d+10000*vl f n
 |0=>by simp[vl]
 |n+1=>by
  rw[←Nat.add_assoc,pW,AO d f n,pW,if_neg (by omega),show 1+n-1=n by omega,Nat.add_comm 1 n,Nat.pow_succ,Nat.mul_add]
  rw[Nat.mul_comm (10000^n),←Nat.mul_assoc,Nat.mul_comm (f n),Nat.mul_assoc];omega
theorem Cy (a b j:Nat) (hb:0<b):let R:=a/10000^(j+1)%b*10000+cC a j
  R/b=cC (a/b) j∧R%b=a/10000^j%b∧R<b*10000:=by
 intro R
 have h1:a/10000^j=a/10000^(j+1)*10000+cC a j:=by
  have:=Nat.div_add_mod (a/10000^j) 10000
  rw[mZ]at this;unfold cC;omega
 have h2:=Nat.div_add_mod (a/10000^(j+1)) b
 have h3:a/10000^j=R+b*(a/10000^(j+1)/b*10000):=by
  rw[h1]
  show _=a/10000^(j+1)%b*10000+cC a j+_
  rw[←Nat.mul_assoc]
  omega
 have h4:=Nat.mod_lt (a/10000^(j+1)) hb
 have h5:=iq a j
 have h6:R<b*10000:=by show a/10000^(j+1)%b*10000+cC a j<_;omega
 refine⟨?_, ?_,h6⟩
 ·unfold cC
  rw[Nat.div_div_eq_div_mul,Nat.mul_comm b,←Nat.div_div_eq_div_mul,h3,Nat.add_mul_div_left _ _ hb]
  have:R/b<10000:=(Nat.div_lt_iff_lt_mul hb).2 (by rw[Nat.mul_comm];exact h6)
  rw[Nat.add_mul_mod_self_right,Nat.mod_eq_of_lt this]
 ·rw[h3,Nat.add_mul_mod_self_left]
end Go.Proofs.YtelidogcomffkaaGreatDoor
namespace Go.Proofs.YtelidogcomffkaaGreatDoor
open Go Go.Sx
variable [Env]
abbrev BR (o:Bool) (v:Nat):Option Vw:=some (.row o 3 (ln v) 1 (fun i=>[I (dg v i)]))
theorem AY {o:Bool} {t:TypeId} {n:Nat} {f g:Nat→Int} (h: ∀ i,i<n→f i=g i):aG [some (.row o t n 1 (fun i=>[I (f i)]))] [some (.row o t n 1 (fun i=>[I (g i)]))]:=
 ⟨⟨rfl,rfl,rfl,rfl,fun i hi=>by simp only[h i hi]⟩,trivial⟩
theorem av.AY {X:Cx} {P:Program} {gl:List (Nat×Vw)} {fn:FuncId} {hp0:List (Option Vw)} {res:SV} {t:TypeId} {o:Bool} {n:Nat} {f g:Nat→Int} (hX:av X P gl fn hp0 res [some (.row o t n 1 (fun i=>[I (g i)]))]) (h: ∀ i,i<n→f i=g i):
  av X P gl fn hp0 res [some (.row o t n 1 (fun i=>[I (f i)]))]:=av.same hX (Go.Proofs.YtelidogcomffkaaGreatDoor.AY h)
theorem av.LN {X:Cx} {P:Program} {gl:List (Nat×Vw)} {fn:FuncId} {hp0:List (Option Vw)} {r:Nat→SV} {n v:Nat} {F:Nat→Nat} (hX:av X P gl fn hp0 (r (ln v)) [BR true v]) (hF: ∀ i,i<n→F i<10000) (hv:vl F n=v) (hn:n=ln v):
  av X P gl fn hp0 (r n) [some (.row true 3 n 1 (fun i=>[I ((F i:Nat):Int)]))]:=by
 subst hn
 refine av.AY hX (fun i hi=> ?_)
 have:=xq hF i hi
 rw[hv]at this
 unfold dg;rw[this]
noncomputable def bQ (x1:Int) (n1_:Nat) (g1011:Nat→Int) (n2_:Nat) (g1021:Nat→Int):SC:=
 ⟨[⟨66,bJ 16 [(0,N .u64 x1),(2, .ptr 0 0),(3, .sl 1 n1_)],[.code (aa Tryz.f66 [1,1,0,0,0]), .inLoop (aa Tryz.f66 [1,1,0,0,0]), .inBlock 0, .code (aa Tryz.f66 [1,1,1])],{}⟩],[some (.box true [.sl 2 n2_]),ro n1_ g1011,ro n2_ g1021]⟩
theorem ko {X:Cx} {res:SV} {new:List (Option Vw)} {a1:Int} (hX:Fi X 66 [] res new) (k:Ok X (bQ a1 0 (fun _=>default) 0 (fun _=>default))):
  Ok X (entry Tryz.prog 66 [N .u64 a1] []):=
 Ok.bg 11 [] [cN 16 [0,2,3]] [.ae 0, .nil 1, .nil 1] 0 hX.P hX.gl hX.n0 (by kernel_rfl) (by kernel_rfl) (by exact⟨rfl,fun _=>rfl,fun _=>rfl,trivial⟩) na k
theorem km {X:Cx} {res:SV} {new:List (Option Vw)} {x1:Int} {n1_:Nat} {g1011:Nat→Int} {n2_:Nat} {g1021 q5002:Nat→Int} (hX:Fi X 66 [] res new) (h0:x1>0) (h1:(0:Int)≤x1) (h2:aj .i64 (x1%10000)) (h3: ∀ k,k<(n1_+1)→q5002 k=if k<n1_ then(g1011 k)else(x1%10000)) (h4:(n1_+1)*8≤140737488355328) (h5:aj .u64 (x1/10000)) (k:Ok X (bQ (x1/10000) (n1_+1) q5002 n2_ g1021)):
  Ok X (bQ x1 n1_ g1011 n2_ g1021):=
 Ok.bg 26 [tb, .row (fun i=>[I (x1%10000)]), .row (fun i=>[I (q5002 i)])] [cN 16 [0,2,3]] [.ae 0, .ae 4, .ae 2] 0 hX.P hX.gl hX.n0 (by kernel_rfl) (by kernel_rfl) (by exact⟨rfl,fun _=>rfl,fun _=>rfl,trivial⟩) (ca (dt h0) (ca h1 (ca (show(0:Int)<10000 from by decide) (ca h2 (ca (show ∀ k,k<1→(fun i=>[I (x1%10000)]) k=[[I (x1%10000)]].getD k []from by intro k hk;match k,hk with|0,_=>rfl|k+1,hk=>omega) (ca (re 1) (ca (re n1_) (ca h4 (ca (show ∀ k,k<n1_+1→(fun i=>[I (q5002 i)]) k=if k<n1_ then(fun i=>[I (g1011 i)]) k else(fun i=>[I (x1%10000)]) (k-n1_)from fun k hk=>by
   have e0:=h3 k hk
   by_cases c:k<n1_
   ·simp_all
   ·rw[if_neg c]at e0⊢;simp only[e0]) (ca h1 (ca (show(0:Int)<10000 from by decide) (ca h5 na)))))))))))) k
theorem kl {X:Cx} {x1:Int} {n1_:Nat} {g1011:Nat→Int} {n2_:Nat} {g1021:Nat→Int} (hX:Fi X 66 [] (.agg [.sl 0 n1_]) [ro n1_ g1011]) (h0: ¬x1>0):
  Ok X (bQ x1 n1_ g1011 n2_ g1021):=
 Ok.fin 14 [fb] [1] 3 hX (by kernel_rfl) rfl (ca (df h0) na)
theorem uJ {X:Cx} {v:Nat} (hv:v<18446744073709551616) (hX:av X Tryz.prog GL 66 [] (.agg [.sl 0 (ln v)]) [BR true v]):
  ∀ (m n:Nat) (g:Nat→Int) (n2:Nat) (g2:Nat→Int),ln v-n=m→n≤ln v→(∀ k,k<n→g k=dg v k)→Ok X (bQ ((v/10000^n:Nat):Int) n g n2 g2)
 |0,n,g,n2,g2,hm,hn,hg=>by
  have e:n=ln v:=by omega
  subst e
  have h0:v/10000^ln v=0:=Nat.div_eq_of_lt (kB v)
  exact kl (av.AY hX hg) (by rw[h0];decide)
 |m+1,n,g,n2,g2,hm,hn,hg=>by
  have h1:0<v/10000^n:=Nat.div_pos (qT.1 (by omega)) (yZ n)
  have h2:v/10000^n≤v:=Nat.div_le_self _ _
  have h3:ln v≤5:=bc.2 (by omega)
  refine km (q5002:=fun k=>if k<n then g k else((v/10000^n:Nat):Int)%10000) hX (by omega) (by omega) (by simp only[aj];omega) (fun k hk=>rfl) (by omega) (by simp only[aj];omega) ?_
  rw[show(((v/10000^n:Nat):Int)/10000)=((v/10000^(n+1):Nat):Int)by rw[←mZ];rfl]
  refine uJ hv hX m (n+1) _ n2 g2 (by omega) (by omega) (fun k hk=> ?_)
  show(if k<n then g k else((v/10000^n:Nat):Int)%10000)=dg v k
  split
  ·exact hg k (by assumption)
  ·have:k=n:=by omega
   subst this;unfold dg cC;omega
theorem yX {v:Nat} (hv:v<18446744073709551616):ab Tryz.prog GL 66 [N .u64 (v:Int)] [] (.agg [.sl 0 (ln v)]) [BR true v]:=by
 refine ab.of (by kernel_rfl) rfl trivial rfl (fun X hX=> ?_)
 refine ko hX ?_
 have:=uJ hv hX (ln v) 0 (fun _=>default) 0 (fun _=>default) (by omega) (by omega) (fun k hk=>by omega)
 simp_all
theorem mj {a1:Int} {n2:Nat} {g3:Nat→Int} (h0:aj .u64 a1) (h1:S 66 [N .u64 a1] [] (.agg [.sl 0 n2]) [ro n2 g3]):
  S 42 [I a1] [] (.agg [.sl 0 n2]) [ro n2 g3]:=
 ab.path 11 [.call [] (.agg [.sl 0 n2]) [ro n2 g3]] [1] 2 (by kernel_rfl) rfl (by exact trivial) (ca h0 (ca h1 na))
theorem pT {v:Nat} (hv:v<9223372036854775808):ab Tryz.prog GL 42 [I (v:Int)] [] (.agg [.sl 0 (ln v)]) [BR true v]:=
 mj (by simp only[aj];omega) (yX (by omega))
theorem lI {n1:Nat} {g2:Nat→Int} {a3:Int} (h0:a3<((n1:Nat):Int)) (h1:(0:Int)≤a3∧a3<((n1:Nat):Int)):
  S 64 [.agg [.sl 0 n1],I a3] [ri n1 g2] (I (g2 a3.toNat)) []:=
 ab.path 24 [tb] [] 2 (by kernel_rfl) rfl (by exact⟨fun _=>rfl,trivial⟩) (ca (dt h0) (ca h1 (ca (re n1) (ca h1 na))))
theorem lF {n1:Nat} {g2:Nat→Int} {a3:Int} (h0: ¬a3<((n1:Nat):Int)):
  S 64 [.agg [.sl 0 n1],I a3] [ri n1 g2] (I 0) []:=
 ab.path 20 [fb] [] 2 (by kernel_rfl) rfl (by exact⟨fun _=>rfl,trivial⟩) (ca (df h0) na)
theorem part {v i:Nat}:ab Tryz.prog GL 64 [.agg [.sl 0 (ln v)],I (i:Int)] [BR false v] (I (dg v i)) []:=by
 by_cases h:i<ln v
 ·have:= @lI _ (ln v) (dg v) (i:Int) (by omega) (by omega)
  simpa using this
 ·rw[EB (by omega)]
  exact lF (by omega)
noncomputable def bz (n1:Nat) (g2:Nat→Int) (x1:Int) (n2_:Nat) (g1021:Nat→Int):SC:=
 ⟨[⟨65,bJ 24 [(0, .sl 0 n1),(2, .ptr 1 0),(3,I x1)],[.code (aa Tryz.f65 [1,1,0,0,0]), .inLoop (aa Tryz.f65 [1,1,0,0,0]), .inBlock 0, .code (aa Tryz.f65 [1,1,1])],{}⟩],[ri n1 g2,some (.box true [.sl 2 n2_]),ro n2_ g1021]⟩
theorem lE {X:Cx} {res:SV} {new:List (Option Vw)} {n1:Nat} {g2:Nat→Int} (hX:Fi X 65 [ri n1 g2] res new) (k:Ok X (bz n1 g2 ((n1:Nat):Int) 0 (fun _=>default))):
  Ok X (entry Tryz.prog 65 [.sl 0 n1] [ri n1 g2]):=
 Ok.bg 13 [] [cN 24 [0,2,3]] [.ae 0, .ae 1, .nil 1] 1 hX.P hX.gl hX.n0 (by kernel_rfl) (by kernel_rfl) (by exact⟨fun _=>rfl,rfl,fun _=>rfl,trivial⟩) na k
theorem lB {X:Cx} {res:SV} {new:List (Option Vw)} {n1:Nat} {g2:Nat→Int} {x1:Int} {n2_:Nat} {g1021:Nat→Int} (hX:Fi X 65 [ri n1 g2] res new) (h0:x1>0) (h1:aj .i64 (x1-1)) (h2:(0:Int)≤(x1-1)∧(x1-1)<((n1:Nat):Int)) (h3:(g2 ((x1-1).toNat))=0) (k:Ok X (bz n1 g2 (x1-1) n2_ g1021)):
  Ok X (bz n1 g2 x1 n2_ g1021):=
 Ok.bg 24 [tb,tb,tb,tb,tb,tb,tb,tb] [cN 24 [0,2,3]] [.ae 0, .ae 1, .ae 2] 1 hX.P hX.gl hX.n0 (by kernel_rfl) (by kernel_rfl) (by exact⟨fun _=>rfl,rfl,fun _=>rfl,trivial⟩) (ca (dt h0) (ca (dt h0) (ca (dt h0) (ca h1 (ca (dt h0) (ca h2 (ca (re n1) (ca (dt h0) (ca h2 (ca (dt h0) (ca (dt h0) (ca (beq_iff_eq.2 h3) (ca h1 na))))))))))))) k
theorem lA {X:Cx} {n1:Nat} {g2:Nat→Int} {x1:Int} {n2_:Nat} {g1021 q5002:Nat→Int} (hX:Fi X 65 [ri n1 g2] (.agg [.sl 1 (0+(x1.toNat-0))]) [some (.row true 3 (0+(x1.toNat-0)) 1 (fun i=>[I (q5002 i)]))]) (h0:x1>0) (h1:aj .i64 (x1-1)) (h2:(0:Int)≤(x1-1)∧(x1-1)<((n1:Nat):Int)) (h3:(g2 ((x1-1).toNat))≠0) (h4:(0:Int)≤x1∧x1≤((n1:Nat):Int)) (h5:(0:Int)≤0∧(0:Int)≤x1) (h6: ∀ k,k<(0+(x1.toNat-0))→q5002 k=if k<0 then 0 else(g2 ((k-0)+0))) (h7:(0+(x1.toNat-0))*8≤140737488355328):
  Ok X (bz n1 g2 x1 n2_ g1021):=
 Ok.fin 26 [tb,tb,tb,tb,tb,tb,tb,fb, .row (fun i=>[I 0]), .row (fun i=>[I (q5002 i)])] [5] 6 hX (by kernel_rfl) rfl (ca (dt h0) (ca (dt h0) (ca (dt h0) (ca h1 (ca (dt h0) (ca h2 (ca (re n1) (ca (dt h0) (ca h2 (ca (dt h0) (ca (dt h0) (ca (beq_eq_false_iff_ne.2 h3) (ca (show ∀ k,k<0→(fun i=>[I 0]) k=[].getD k []from by intro k hk;omega) (ca (re n1) (ca h4 (ca h5 (ca (show(x1.toNat-0)=(x1.toNat-0)from rfl) (ca (re 0) (ca h7 (ca (show ∀ k,k<0+(x1.toNat-0)→(fun i=>[I (q5002 i)]) k=if k<0 then(fun i=>[I 0]) k else(fun i=>[I (g2 (i+0))]) (k-0)from fun k hk=>by
   have e0:=h6 k hk
   by_cases c:k<0
   ·omega
   ·rw[if_neg c]at e0⊢;simp only[e0]) na))))))))))))))))))))
theorem lz {X:Cx} {n1:Nat} {g2:Nat→Int} {x1:Int} {n2_:Nat} {g1021 q5002:Nat→Int} (hX:Fi X 65 [ri n1 g2] (.agg [.sl 1 (0+(x1.toNat-0))]) [some (.row true 3 (0+(x1.toNat-0)) 1 (fun i=>[I (q5002 i)]))]) (h0: ¬x1>0) (h1:(0:Int)≤x1∧x1≤((n1:Nat):Int)) (h2:(0:Int)≤0∧(0:Int)≤x1) (h3: ∀ k,k<(0+(x1.toNat-0))→q5002 k=if k<0 then 0 else(g2 ((k-0)+0))) (h4:(0+(x1.toNat-0))*8≤140737488355328):
  Ok X (bz n1 g2 x1 n2_ g1021):=
 Ok.fin 26 [fb,fb,fb,fb,fb,fb,fb,fb, .row (fun i=>[I 0]), .row (fun i=>[I (q5002 i)])] [5] 6 hX (by kernel_rfl) rfl (ca (df h0) (ca (df h0) (ca (df h0) (ca (df h0) (ca (df h0) (ca (df h0) (ca (df h0) (ca rf (ca (show ∀ k,k<0→(fun i=>[I 0]) k=[].getD k []from by intro k hk;omega) (ca (re n1) (ca h1 (ca h2 (ca (show(x1.toNat-0)=(x1.toNat-0)from rfl) (ca (re 0) (ca h4 (ca (show ∀ k,k<0+(x1.toNat-0)→(fun i=>[I (q5002 i)]) k=if k<0 then(fun i=>[I 0]) k else(fun i=>[I (g2 (i+0))]) (k-0)from fun k hk=>by
   have e0:=h3 k hk
   by_cases c:k<0
   ·omega
   ·rw[if_neg c]at e0⊢;simp only[e0]) na))))))))))))))))
theorem vu {X:Cx} {n:Nat} {F:Nat→Nat} (hF: ∀ i,i<n→F i<10000) (hn:n≤10000)
  (hX:av X Tryz.prog GL 65 [some (.row false 3 n 1 (fun i=>[I ((F i:Nat):Int)]))] (.agg [.sl 1 (ln (vl F n))]) [BR true (vl F n)]):
  ∀ (m n2:Nat) (g2:Nat→Int),m≤n→vl F m=vl F n→Ok X (bz n (fun i=>((F i:Nat):Int)) (m:Int) n2 g2)
 |0,n2,g2,hm,hv=>by
  have h0:vl F n=0:=by rw[←hv];rfl
  have h1:=av.LN (r:=fun n=> .agg [.sl 1 n]) (n:=0+((((0:Nat):Int)).toNat-0)) (F:=F) (v:=vl F n) hX (fun i hi=>by omega) (by rw[h0];rfl) (by rw[h0,fm];rfl)
  exact lz h1 (by omega) (by omega) (by omega) (fun k hk=>by simp) (by omega)
 |m+1,n2,g2,hm,hv=>by
  have e:(((m+1:Nat):Int)-1).toNat=m:=by omega
  by_cases h:F m=0
  ·refine lB hX (by omega) (by simp only[aj];omega) (by omega) (by rw[e,h];rfl) ?_
   rw[show(((m+1:Nat):Int)-1)=(m:Int)by omega]
   refine vu hF hn hX m n2 g2 (by omega) ?_
   rw[←hv];rw[pW,h];simp
  ·have h2:m+1=ln (vl F n):=by
    refine Hp ?_ (.inr ?_)
    ·rw[←hv];exact xp (fun i hi=>hF i (by omega))
    ·rw[←hv];show 10000^m≤vl F m+F m*10000^m
     have:1*10000^m≤F m*10000^m:=Nat.mul_le_mul_right _ (by omega)
     omega
   have e2:0+((((m+1:Nat):Int)).toNat-0)=m+1:=by omega
   have h1:=av.LN (r:=fun n=> .agg [.sl 1 n]) (n:=0+((((m+1:Nat):Int)).toNat-0)) (F:=F) (v:=vl F n) hX (fun i hi=>hF i (by omega)) (by rw[e2];exact hv) (by rw[e2];exact h2)
   exact lA h1 (by omega) (by simp only[aj];omega) (by omega) (by rw[e];omega) (by omega) (by omega) (fun k hk=>by simp) (by omega)
theorem trim {n:Nat} {F:Nat→Nat} (hF: ∀ i,i<n→F i<10000) (hn:n≤10000):
  ab Tryz.prog GL 65 [.sl 0 n] [some (.row false 3 n 1 (fun i=>[I ((F i:Nat):Int)]))] (.agg [.sl 1 (ln (vl F n))]) [BR true (vl F n)]:=by
 refine ab.of (by kernel_rfl) rfl ⟨fun i=>rfl,trivial⟩ rfl (fun X hX=> ?_)
 exact lE hX (vu hF hn hX n 0 (fun _=>default) (Nat.le_refl _) rfl)
noncomputable def aZ (n1:Nat) (g2:Nat→Int) (n3:Nat) (g4:Nat→Int) (x1:Int):SC:=
 ⟨[⟨43,bJ 38 [(2, .ptr 2 0),(3, .ptr 3 0),(6,I x1)],[.code (aa Tryz.f43 [1,1,1,0,1,0,0]), .inLoop (aa Tryz.f43 [1,1,1,0,1,0,0]), .inBlock 0, .code (aa Tryz.f43 [1,1,1,1])],{}⟩],[ri n1 g2,ri n3 g4,some (.box true [.sl 0 n1]),some (.box true [.sl 1 n3])]⟩
theorem oa {X:Cx} {res:SV} {new:List (Option Vw)} {n1:Nat} {g2:Nat→Int} {n3:Nat} {g4:Nat→Int} (hX:Fi X 43 [ri n1 g2,ri n3 g4] res new) (h0:((n3:Nat):Int)>((n1:Nat):Int)) (h1:aj .i64 (((n3:Nat):Int)-1)) (k:Ok X (aZ n1 g2 n3 g4 (((n3:Nat):Int)-1))):
  Ok X (entry Tryz.prog 43 [.agg [.sl 0 n1], .agg [.sl 1 n3]] [ri n1 g2,ri n3 g4]):=
 Ok.bg 38 [tb] [cN 38 [2,3,6]] [.ae 0, .ae 1, .ae 2, .ae 3] 2 hX.P hX.gl hX.n0 (by kernel_rfl) (by kernel_rfl) (by exact⟨fun _=>rfl,fun _=>rfl,rfl,rfl,trivial⟩) (ca (dt h0) (ca h1 na)) k
theorem nZ {X:Cx} {res:SV} {new:List (Option Vw)} {n1:Nat} {g2:Nat→Int} {n3:Nat} {g4:Nat→Int} (hX:Fi X 43 [ri n1 g2,ri n3 g4] res new) (h0: ¬((n3:Nat):Int)>((n1:Nat):Int)) (h1:aj .i64 (((n1:Nat):Int)-1)) (k:Ok X (aZ n1 g2 n3 g4 (((n1:Nat):Int)-1))):
  Ok X (entry Tryz.prog 43 [.agg [.sl 0 n1], .agg [.sl 1 n3]] [ri n1 g2,ri n3 g4]):=
 Ok.bg 33 [fb] [cN 38 [2,3,6]] [.ae 0, .ae 1, .ae 2, .ae 3] 2 hX.P hX.gl hX.n0 (by kernel_rfl) (by kernel_rfl) (by exact⟨fun _=>rfl,fun _=>rfl,rfl,rfl,trivial⟩) (ca (df h0) (ca h1 na)) k
theorem nY {X:Cx} {n1:Nat} {g2:Nat→Int} {n3:Nat} {g4:Nat→Int} {x1 r5002 r5003:Int} (hX:Fi X 43 [ri n1 g2,ri n3 g4] (I (-1)) []) (h0:x1≥0) (h1:S 64 [.agg [.sl 0 n1],I x1] [ri n1 g2] (I r5002) []) (h2:S 64 [.agg [.sl 0 n3],I x1] [ri n3 g4] (I r5003) []) (h3:r5002<r5003):
  Ok X (aZ n1 g2 n3 g4 x1):=
 Ok.fin 36 [tb, .call [0] (I r5002) [], .call [1] (I r5003) [],tb] [] 4 hX (by kernel_rfl) rfl (ca (dt h0) (ca h1 (ca h2 (ca (dt h3) na))))
theorem nX {X:Cx} {n1:Nat} {g2:Nat→Int} {n3:Nat} {g4:Nat→Int} {x1 r5002 r5003:Int} (hX:Fi X 43 [ri n1 g2,ri n3 g4] (I 1) []) (h0:x1≥0) (h1:S 64 [.agg [.sl 0 n1],I x1] [ri n1 g2] (I r5002) []) (h2:S 64 [.agg [.sl 0 n3],I x1] [ri n3 g4] (I r5003) []) (h3: ¬r5002<r5003) (h4:r5002>r5003):
  Ok X (aZ n1 g2 n3 g4 x1):=
 Ok.fin 44 [tb, .call [0] (I r5002) [], .call [1] (I r5003) [],fb,tb] [] 4 hX (by kernel_rfl) rfl (ca (dt h0) (ca h1 (ca h2 (ca (df h3) (ca (dt h4) na)))))
theorem nV {X:Cx} {res:SV} {new:List (Option Vw)} {n1:Nat} {g2:Nat→Int} {n3:Nat} {g4:Nat→Int} {x1 r5002 r5003:Int} (hX:Fi X 43 [ri n1 g2,ri n3 g4] res new) (h0:x1≥0) (h1:S 64 [.agg [.sl 0 n1],I x1] [ri n1 g2] (I r5002) []) (h2:S 64 [.agg [.sl 0 n3],I x1] [ri n3 g4] (I r5003) []) (h3: ¬r5002<r5003) (h4: ¬r5002>r5003) (h5:aj .i64 (x1-1)) (k:Ok X (aZ n1 g2 n3 g4 (x1-1))):
  Ok X (aZ n1 g2 n3 g4 x1):=
 Ok.bg 48 [tb, .call [0] (I r5002) [], .call [1] (I r5003) [],fb,fb] [cN 38 [2,3,6]] [.ae 0, .ae 1, .ae 2, .ae 3] 2 hX.P hX.gl hX.n0 (by kernel_rfl) (by kernel_rfl) (by exact⟨fun _=>rfl,fun _=>rfl,rfl,rfl,trivial⟩) (ca (dt h0) (ca h1 (ca h2 (ca (df h3) (ca (df h4) (ca h5 na)))))) k
theorem nU {X:Cx} {n1:Nat} {g2:Nat→Int} {n3:Nat} {g4:Nat→Int} {x1:Int} (hX:Fi X 43 [ri n1 g2,ri n3 g4] (I 0) []) (h0: ¬x1≥0):
  Ok X (aZ n1 g2 n3 g4 x1):=
 Ok.fin 12 [fb] [] 4 hX (by kernel_rfl) rfl (ca (df h0) na)
theorem uL {X:Cx} {a b:Nat} (ha:ln a≤10000) (hb:ln b≤10000) (hX:av X Tryz.prog GL 43 [BR false a,BR false b] (I (cX a b)) []):
  ∀ (i:Nat),i≤20000→a/10000^i=b/10000^i→Ok X (aZ (ln a) (dg a) (ln b) (dg b) ((i:Int)-1))
 |0,_,h=>by
  simp at h
  subst h
  refine nU ?_ (by omega)
  have e:cX (a:Int) a=0:=by unfold cX;simp
  rwa [e]at hX
 |j+1,hi,h=>by
  have e:(((j+1:Nat):Int)-1)=(j:Int):=by omega
  have h1:=Nat.div_add_mod (a/10000^j) 10000
  have h2:=Nat.div_add_mod (b/10000^j) 10000
  rw[mZ]at h1 h2
  rw[h]at h1
  rw[e]
  rcases Nat.lt_trichotomy (cC a j) (cC b j)with h3|h3|h3
  ·refine nY ?_ (by omega) part part (by unfold dg;omega)
   have h4:a<b:=by
    unfold cC at h3
    have:a/10000^j<b/10000^j:=by omega
    exact Nat.lt_of_not_le (fun h=>absurd (Nat.div_le_div_right (c:=10000^j) h) (by omega))
   have e:cX (a:Int) b= -1:=by unfold cX;rw[if_pos (by omega)]
   rwa [e]at hX
  ·refine nV hX (by omega) part part (by unfold dg;omega) (by unfold dg;omega) (by simp only[aj];omega) ?_
   refine uL ha hb hX j (by omega) ?_
   unfold cC at h3;omega
  ·refine nX ?_ (by omega) part part (by unfold dg;omega) (by unfold dg;omega)
   have h4:b<a:=by
    unfold cC at h3
    have:b/10000^j<a/10000^j:=by omega
    exact Nat.lt_of_not_le (fun h=>absurd (Nat.div_le_div_right (c:=10000^j) h) (by omega))
   have e:cX (a:Int) b=1:=by unfold cX;rw[if_neg (by omega),if_pos (by omega)]
   rwa [e]at hX
theorem HH {a b:Nat} (ha:ln a≤10000) (hb:ln b≤10000):ab Tryz.prog GL 43 [.agg [.sl 0 (ln a)], .agg [.sl 1 (ln b)]] [BR false a,BR false b] (I (cX a b)) []:=by
 refine ab.of (by kernel_rfl) rfl ⟨fun i=>rfl,fun i=>rfl,trivial⟩ rfl (fun X hX=> ?_)
 by_cases h:ln a<ln b
 ·exact oa hX (by omega) (by simp only[aj];omega) (uL ha hb hX (ln b) (by omega) (by rw[Nat.div_eq_of_lt (bc.1 (by omega)),Nat.div_eq_of_lt (kB b)]))
 ·exact nZ hX (by omega) (by simp only[aj];omega) (uL ha hb hX (ln a) (by omega) (by rw[Nat.div_eq_of_lt (kB a),Nat.div_eq_of_lt (bc.1 (by omega))]))
noncomputable def aL (n1:Nat) (g2:Nat→Int) (n3:Nat) (g4:Nat→Int) (x1:Int) (x2:Int) (n5_:Nat) (g1051:Nat→Int) (n6_:Nat) (g1061:Nat→Int):SC:=
 ⟨[⟨155,bJ 45 [(2, .ptr 2 0),(3, .ptr 3 0),(4, .ptr 4 0),(5, .sl 5 n5_),(6,I x1),(7,I x2)],[.code (aa Tryz.f155 [1,1,1,0,1,0,0]), .inLoop (aa Tryz.f155 [1,1,1,0,1,0,0]), .inBlock 0, .code (aa Tryz.f155 [1,1,1,1])],{}⟩],[ri n1 g2,ri n3 g4,some (.box true [.sl 0 n1]),some (.box true [.sl 1 n3]),some (.box true [.sl 6 n6_]),ro n5_ g1051,ro n6_ g1061]⟩
theorem mc {X:Cx} {res:SV} {new:List (Option Vw)} {n1:Nat} {g2:Nat→Int} {n3:Nat} {g4:Nat→Int} (hX:Fi X 155 [ri n1 g2,ri n3 g4] res new) (k:Ok X (aL n1 g2 n3 g4 0 0 0 (fun _=>default) 0 (fun _=>default))):
  Ok X (entry Tryz.prog 155 [.agg [.sl 0 n1], .agg [.sl 1 n3]] [ri n1 g2,ri n3 g4]):=
 Ok.bg 21 [] [cN 45 [2,3,4,5,6,7]] [.ae 0, .ae 1, .ae 2, .ae 3, .ae 4, .nil 1, .nil 1] 2 hX.P hX.gl hX.n0 (by kernel_rfl) (by kernel_rfl) (by exact⟨fun _=>rfl,fun _=>rfl,rfl,rfl,rfl,fun _=>rfl,fun _=>rfl,trivial⟩) na k
theorem l9 {X:Cx} {res:SV} {new:List (Option Vw)} {n1:Nat} {g2:Nat→Int} {n3:Nat} {g4:Nat→Int} {x1 x2:Int} {n5_:Nat} {g1051:Nat→Int} {n6_:Nat} {g1061:Nat→Int} {r5003 r5004:Int} {q5005:Nat→Int} (hX:Fi X 155 [ri n1 g2,ri n3 g4] res new) (h0:x2<((n1:Nat):Int)) (h1:S 64 [.agg [.sl 0 n1],I x2] [ri n1 g2] (I r5003) []) (h2:S 64 [.agg [.sl 0 n3],I x2] [ri n3 g4] (I r5004) []) (h3:aj .i64 (r5003+r5004)) (h4:aj .i64 ((r5003+r5004)+x1)) (h5:(0:Int)≤((r5003+r5004)+x1)) (h6: ∀ k,k<(n5_+1)→q5005 k=if k<n5_ then(g1051 k)else(((r5003+r5004)+x1)%10000)) (h7:(n5_+1)*8≤140737488355328) (h8:aj .i64 (((r5003+r5004)+x1)/10000)) (h9:aj .i64 (x2+1)) (k:Ok X (aL n1 g2 n3 g4 (((r5003+r5004)+x1)/10000) (x2+1) (n5_+1) q5005 n6_ g1061)):
  Ok X (aL n1 g2 n3 g4 x1 x2 n5_ g1051 n6_ g1061):=
 Ok.bg 50 [tb,tb,tb,tb,tb,tb,tb,tb,tb,tb, .draw 8 [] 0, .call [0] (I r5003) [], .call [1] (I r5004) [], .row (fun i=>[I (((r5003+r5004)+x1)%10000)]), .row (fun i=>[I (q5005 i)])] [cN 45 [2,3,4,5,6,7]] [.ae 0, .ae 1, .ae 2, .ae 3, .ae 4, .ae 8, .ae 6] 2 hX.P hX.gl hX.n0 (by kernel_rfl) (by kernel_rfl) (by exact⟨fun _=>rfl,fun _=>rfl,rfl,rfl,rfl,fun _=>rfl,fun _=>rfl,trivial⟩) (ca (dt h0) (ca (dt h0) (ca (dt h0) (ca (dt h0) (ca (dt h0) (ca (dt h0) (ca rt (ca rt (ca rt (ca rt (ca h1 (ca h2 (ca h3 (ca h4 (ca h5 (ca (show(0:Int)<10000 from by decide) (ca (show ∀ k,k<1→(fun i=>[I (((r5003+r5004)+x1)%10000)]) k=[[I (((r5003+r5004)+x1)%10000)]].getD k []from by intro k hk;match k,hk with|0,_=>rfl|k+1,hk=>omega) (ca (re 1) (ca (re n5_) (ca h7 (ca (show ∀ k,k<n5_+1→(fun i=>[I (q5005 i)]) k=if k<n5_ then(fun i=>[I (g1051 i)]) k else(fun i=>[I (((r5003+r5004)+x1)%10000)]) (k-n5_)from fun k hk=>by
   have e0:=h6 k hk
   by_cases c:k<n5_
   ·simp_all
   ·rw[if_neg c]at e0⊢;simp only[e0]) (ca h5 (ca (show(0:Int)<10000 from by decide) (ca h8 (ca h9 na))))))))))))))))))))))))) k
theorem l8 {X:Cx} {res:SV} {new:List (Option Vw)} {n1:Nat} {g2:Nat→Int} {n3:Nat} {g4:Nat→Int} {x1 x2:Int} {n5_:Nat} {g1051:Nat→Int} {n6_:Nat} {g1061:Nat→Int} {r5003 r5004:Int} {q5005:Nat→Int} (hX:Fi X 155 [ri n1 g2,ri n3 g4] res new) (h0: ¬x2<((n1:Nat):Int)) (h1:x2<((n3:Nat):Int)) (h2:S 64 [.agg [.sl 0 n1],I x2] [ri n1 g2] (I r5003) []) (h3:S 64 [.agg [.sl 0 n3],I x2] [ri n3 g4] (I r5004) []) (h4:aj .i64 (r5003+r5004)) (h5:aj .i64 ((r5003+r5004)+x1)) (h6:(0:Int)≤((r5003+r5004)+x1)) (h7: ∀ k,k<(n5_+1)→q5005 k=if k<n5_ then(g1051 k)else(((r5003+r5004)+x1)%10000)) (h8:(n5_+1)*8≤140737488355328) (h9:aj .i64 (((r5003+r5004)+x1)/10000)) (h10:aj .i64 (x2+1)) (k:Ok X (aL n1 g2 n3 g4 (((r5003+r5004)+x1)/10000) (x2+1) (n5_+1) q5005 n6_ g1061)):
  Ok X (aL n1 g2 n3 g4 x1 x2 n5_ g1051 n6_ g1061):=
 Ok.bg 50 [fb,fb,fb,fb,fb,fb,tb,tb,tb,tb, .draw 8 [] 0, .call [0] (I r5003) [], .call [1] (I r5004) [], .row (fun i=>[I (((r5003+r5004)+x1)%10000)]), .row (fun i=>[I (q5005 i)])] [cN 45 [2,3,4,5,6,7]] [.ae 0, .ae 1, .ae 2, .ae 3, .ae 4, .ae 8, .ae 6] 2 hX.P hX.gl hX.n0 (by kernel_rfl) (by kernel_rfl) (by exact⟨fun _=>rfl,fun _=>rfl,rfl,rfl,rfl,fun _=>rfl,fun _=>rfl,trivial⟩) (ca (df h0) (ca (df h0) (ca (df h0) (ca (df h0) (ca (df h0) (ca (df h0) (ca (dt h1) (ca (dt h1) (ca (dt h1) (ca rt (ca h2 (ca h3 (ca h4 (ca h5 (ca h6 (ca (show(0:Int)<10000 from by decide) (ca (show ∀ k,k<1→(fun i=>[I (((r5003+r5004)+x1)%10000)]) k=[[I (((r5003+r5004)+x1)%10000)]].getD k []from by intro k hk;match k,hk with|0,_=>rfl|k+1,hk=>omega) (ca (re 1) (ca (re n5_) (ca h8 (ca (show ∀ k,k<n5_+1→(fun i=>[I (q5005 i)]) k=if k<n5_ then(fun i=>[I (g1051 i)]) k else(fun i=>[I (((r5003+r5004)+x1)%10000)]) (k-n5_)from fun k hk=>by
   have e0:=h7 k hk
   by_cases c:k<n5_
   ·simp_all
   ·rw[if_neg c]at e0⊢;simp only[e0]) (ca h6 (ca (show(0:Int)<10000 from by decide) (ca h9 (ca h10 na))))))))))))))))))))))))) k
theorem l7 {X:Cx} {res:SV} {new:List (Option Vw)} {n1:Nat} {g2:Nat→Int} {n3:Nat} {g4:Nat→Int} {x1 x2:Int} {n5_:Nat} {g1051:Nat→Int} {n6_:Nat} {g1061:Nat→Int} {r5003 r5004:Int} {q5005:Nat→Int} (hX:Fi X 155 [ri n1 g2,ri n3 g4] res new) (h0: ¬x2<((n1:Nat):Int)) (h1: ¬x2<((n3:Nat):Int)) (h2:x1>0) (h3:S 64 [.agg [.sl 0 n1],I x2] [ri n1 g2] (I r5003) []) (h4:S 64 [.agg [.sl 0 n3],I x2] [ri n3 g4] (I r5004) []) (h5:aj .i64 (r5003+r5004)) (h6:aj .i64 ((r5003+r5004)+x1)) (h7:(0:Int)≤((r5003+r5004)+x1)) (h8: ∀ k,k<(n5_+1)→q5005 k=if k<n5_ then(g1051 k)else(((r5003+r5004)+x1)%10000)) (h9:(n5_+1)*8≤140737488355328) (h10:aj .i64 (((r5003+r5004)+x1)/10000)) (h11:aj .i64 (x2+1)) (k:Ok X (aL n1 g2 n3 g4 (((r5003+r5004)+x1)/10000) (x2+1) (n5_+1) q5005 n6_ g1061)):
  Ok X (aL n1 g2 n3 g4 x1 x2 n5_ g1051 n6_ g1061):=
 Ok.bg 50 [fb,fb,fb,fb,fb,fb,fb,fb,fb,tb, .draw 8 [] 0, .call [0] (I r5003) [], .call [1] (I r5004) [], .row (fun i=>[I (((r5003+r5004)+x1)%10000)]), .row (fun i=>[I (q5005 i)])] [cN 45 [2,3,4,5,6,7]] [.ae 0, .ae 1, .ae 2, .ae 3, .ae 4, .ae 8, .ae 6] 2 hX.P hX.gl hX.n0 (by kernel_rfl) (by kernel_rfl) (by exact⟨fun _=>rfl,fun _=>rfl,rfl,rfl,rfl,fun _=>rfl,fun _=>rfl,trivial⟩) (ca (df h0) (ca (df h0) (ca (df h0) (ca (df h0) (ca (df h0) (ca (df h0) (ca (df h1) (ca (df h1) (ca (df h1) (ca (dt h2) (ca h3 (ca h4 (ca h5 (ca h6 (ca h7 (ca (show(0:Int)<10000 from by decide) (ca (show ∀ k,k<1→(fun i=>[I (((r5003+r5004)+x1)%10000)]) k=[[I (((r5003+r5004)+x1)%10000)]].getD k []from by intro k hk;match k,hk with|0,_=>rfl|k+1,hk=>omega) (ca (re 1) (ca (re n5_) (ca h9 (ca (show ∀ k,k<n5_+1→(fun i=>[I (q5005 i)]) k=if k<n5_ then(fun i=>[I (g1051 i)]) k else(fun i=>[I (((r5003+r5004)+x1)%10000)]) (k-n5_)from fun k hk=>by
   have e0:=h8 k hk
   by_cases c:k<n5_
   ·simp_all
   ·rw[if_neg c]at e0⊢;simp only[e0]) (ca h7 (ca (show(0:Int)<10000 from by decide) (ca h10 (ca h11 na))))))))))))))))))))))))) k
theorem l6 {X:Cx} {n1:Nat} {g2:Nat→Int} {n3:Nat} {g4:Nat→Int} {x1 x2:Int} {n5_:Nat} {g1051:Nat→Int} {n6_:Nat} {g1061:Nat→Int} (hX:Fi X 155 [ri n1 g2,ri n3 g4] (.agg [.sl 2 n5_]) [ro n5_ g1051]) (h0: ¬x2<((n1:Nat):Int)) (h1: ¬x2<((n3:Nat):Int)) (h2: ¬x1>0):
  Ok X (aL n1 g2 n3 g4 x1 x2 n5_ g1051 n6_ g1061):=
 Ok.fin 28 [fb,fb,fb,fb,fb,fb,fb,fb,fb,fb] [5] 7 hX (by kernel_rfl) rfl (ca (df h0) (ca (df h0) (ca (df h0) (ca (df h0) (ca (df h0) (ca (df h0) (ca (df h1) (ca (df h1) (ca (df h1) (ca (df h2) na))))))))))
theorem wa {X:Cx} {a b:Nat} (ha:ln a≤10000) (hb:ln b≤10000) (hX:av X Tryz.prog GL 155 [BR false a,BR false b] (.agg [.sl 2 (ln (a+b))]) [BR true (a+b)]):
  ∀ (m i c:Nat) (F:Nat→Nat) (n6:Nat) (g6:Nat→Int),20002-i=m→i≤max (ln a) (ln b)+1→(∀ k,k<i→F k<10000)→vl F i+c*10000^i=a%10000^i+b%10000^i→(i=0∨10000^(i-1)≤a+b)→c≤1→(max (ln a) (ln b)<i→c=0)→
    Ok X (aL (ln a) (dg a) (ln b) (dg b) (c:Int) (i:Int) i (fun k=>((F k:Nat):Int)) n6 g6)
 |0,i,c,F,n6,g6,hm,hi,hF,hv,ht,hc,hl=>by omega
 |m+1,i,c,F,n6,g6,hm,hi,hF,hv,ht,hc,hl=>by
  have h1:=iq a i
  have h2:=iq b i
  have h3:=BK a i
  have e:dg a i+dg b i+(c:Int)=((cC a i+cC b i+c:Nat):Int):=by unfold dg;omega
  by_cases hs:i<ln a∨i<ln b∨0<c
  ·have hgo:Ok X (aL (ln a) (dg a) (ln b) (dg b) ((dg a i+dg b i+(c:Int))/10000) ((i:Int)+1) (i+1) (fun k=>(((if k<i then F k else(cC a i+cC b i+c)%10000):Nat):Int)) n6 g6):=by
    rw[e,show((cC a i+cC b i+c:Nat):Int)/10000=(((cC a i+cC b i+c)/10000:Nat):Int)from rfl]
    have hc':max (ln a) (ln b)<i+1→(cC a i+cC b i+c)/10000=0:=by
     intro h
     by_cases h4:max (ln a) (ln b)<i
     ·omega
     ·rw[wV (v:=a) (by omega),wV (v:=b) (by omega)];omega
    refine wa ha hb hX m (i+1) ((cC a i+cC b i+c)/10000) _ n6 g6 (by omega) ?_ ?_ ?_ (.inr ?_) (by omega) hc'
    ·omega
    ·grind
    ·rw[pW,mB (g:=F) (fun k hk=>if_pos hk),if_neg (by omega),mod_succ,mod_succ,Nat.pow_succ]
     have h5:=Nat.div_add_mod (cC a i+cC b i+c) 10000
     grind
    ·simp only[Nat.add_sub_cancel]
     rcases hs with h|h|h
     ·have:=qT.1 h;omega
     ·have:=qT.1 h;omega
     ·have h7:=Nat.mod_le a (10000^i)
      have h8:=Nat.mod_le b (10000^i)
      grind
   have hq: ∀ k,k<i+1→(((if k<i then F k else(cC a i+cC b i+c)%10000):Nat):Int)=if k<i then((F k:Nat):Int)else(dg a i+dg b i+(c:Int))%10000:=by
    grind
   by_cases h4:i<ln a
   ·exact l9 hX (by omega) part part (by unfold dg;simp only[aj];omega) (by rw[e];simp only[aj];omega) (by rw[e];omega) hq (by omega) (by rw[e];simp only[aj];omega) (by simp only[aj];omega) hgo
   ·by_cases h5:i<ln b
    ·exact l8 hX (by omega) (by omega) part part (by unfold dg;simp only[aj];omega) (by rw[e];simp only[aj];omega) (by rw[e];omega) hq (by omega) (by rw[e];simp only[aj];omega) (by simp only[aj];omega) hgo
    ·exact l7 hX (by omega) (by omega) (by omega) part part (by unfold dg;simp only[aj];omega) (by rw[e];simp only[aj];omega) (by rw[e];omega) hq (by omega) (by rw[e];simp only[aj];omega) (by simp only[aj];omega) hgo
  ·have hc0:c=0:=by omega
   subst hc0
   rw[fx (by omega),fx (by omega)]at hv
   simp only[Nat.zero_mul,Nat.add_zero]at hv
   have hn:i=ln (a+b):=Hp (by rw[←hv];exact xp hF) ht
   exact l6 (av.LN (r:=fun n=> .agg [.sl 2 n]) hX hF hv hn) (by omega) (by omega) (by omega)
theorem Ju {a b:Nat} (ha:ln a≤10000) (hb:ln b≤10000):ab Tryz.prog GL 155 [.agg [.sl 0 (ln a)], .agg [.sl 1 (ln b)]] [BR false a,BR false b] (.agg [.sl 2 (ln (a+b))]) [BR true (a+b)]:=by
 refine ab.of (by kernel_rfl) rfl ⟨fun i=>rfl,fun i=>rfl,trivial⟩ rfl (fun X hX=> ?_)
 exact mc hX (wa ha hb hX _ 0 0 (fun _=>0) 0 (fun _=>default) rfl (by omega) (fun k hk=>by omega) (by simp[vl,Nat.mod_one]) (.inl rfl) (by omega) (by omega))
noncomputable def aV (n1:Nat) (g2:Nat→Int) (n3:Nat) (g4:Nat→Int) (x1:Int) (x2:Int) (n5_:Nat) (g1051:Nat→Int) (n6_:Nat) (g1061:Nat→Int):SC:=
 ⟨[⟨229,bJ 35 [(2, .ptr 2 0),(3, .ptr 3 0),(4, .ptr 4 0),(5, .sl 5 n5_),(6,I x1),(7,I x2)],[.code (aa Tryz.f229 [1,1,1,0,1,0,0]), .inLoop (aa Tryz.f229 [1,1,1,0,1,0,0]), .inBlock 0, .code (aa Tryz.f229 [1,1,1,1])],{}⟩],[ri n1 g2,ri n3 g4,some (.box true [.sl 0 n1]),some (.box true [.sl 1 n3]),some (.box true [.sl 6 n6_]),ro n5_ g1051,ro n6_ g1061]⟩
theorem mi {X:Cx} {res:SV} {new:List (Option Vw)} {n1:Nat} {g2:Nat→Int} {n3:Nat} {g4:Nat→Int} (hX:Fi X 229 [ri n1 g2,ri n3 g4] res new) (k:Ok X (aV n1 g2 n3 g4 0 0 0 (fun _=>default) 0 (fun _=>default))):
  Ok X (entry Tryz.prog 229 [.agg [.sl 0 n1], .agg [.sl 1 n3]] [ri n1 g2,ri n3 g4]):=
 Ok.bg 21 [] [cN 35 [2,3,4,5,6,7]] [.ae 0, .ae 1, .ae 2, .ae 3, .ae 4, .nil 1, .nil 1] 2 hX.P hX.gl hX.n0 (by kernel_rfl) (by kernel_rfl) (by exact⟨fun _=>rfl,fun _=>rfl,rfl,rfl,rfl,fun _=>rfl,fun _=>rfl,trivial⟩) na k
theorem mh {X:Cx} {res:SV} {new:List (Option Vw)} {n1:Nat} {g2:Nat→Int} {n3:Nat} {g4:Nat→Int} {x1 x2:Int} {n5_:Nat} {g1051:Nat→Int} {n6_:Nat} {g1061:Nat→Int} {r5003 r5004:Int} {q5005:Nat→Int} (hX:Fi X 229 [ri n1 g2,ri n3 g4] res new) (h0:x2<((n1:Nat):Int)) (h1:S 64 [.agg [.sl 0 n1],I x2] [ri n1 g2] (I r5003) []) (h2:S 64 [.agg [.sl 0 n3],I x2] [ri n3 g4] (I r5004) []) (h3:aj .i64 (r5003-r5004)) (h4:aj .i64 ((r5003-r5004)-x1)) (h5:((r5003-r5004)-x1)<0) (h6:aj .i64 (((r5003-r5004)-x1)+10000)) (h7: ∀ k,k<(n5_+1)→q5005 k=if k<n5_ then(g1051 k)else(((r5003-r5004)-x1)+10000)) (h8:(n5_+1)*8≤140737488355328) (h9:aj .i64 (x2+1)) (k:Ok X (aV n1 g2 n3 g4 1 (x2+1) (n5_+1) q5005 n6_ g1061)):
  Ok X (aV n1 g2 n3 g4 x1 x2 n5_ g1051 n6_ g1061):=
 Ok.bg 52 [tb, .draw 8 [] 0, .call [0] (I r5003) [], .call [1] (I r5004) [],tb, .row (fun i=>[I (((r5003-r5004)-x1)+10000)]), .row (fun i=>[I (q5005 i)])] [cN 35 [2,3,4,5,6,7]] [.ae 0, .ae 1, .ae 2, .ae 3, .ae 4, .ae 8, .ae 6] 2 hX.P hX.gl hX.n0 (by kernel_rfl) (by kernel_rfl) (by exact⟨fun _=>rfl,fun _=>rfl,rfl,rfl,rfl,fun _=>rfl,fun _=>rfl,trivial⟩) (ca (dt h0) (ca h1 (ca h2 (ca h3 (ca h4 (ca (dt h5) (ca h6 (ca (show ∀ k,k<1→(fun i=>[I (((r5003-r5004)-x1)+10000)]) k=[[I (((r5003-r5004)-x1)+10000)]].getD k []from by intro k hk;match k,hk with|0,_=>rfl|k+1,hk=>omega) (ca (re 1) (ca (re n5_) (ca h8 (ca (show ∀ k,k<n5_+1→(fun i=>[I (q5005 i)]) k=if k<n5_ then(fun i=>[I (g1051 i)]) k else(fun i=>[I (((r5003-r5004)-x1)+10000)]) (k-n5_)from fun k hk=>by
   have e0:=h7 k hk
   by_cases c:k<n5_
   ·simp_all
   ·rw[if_neg c]at e0⊢;simp only[e0]) (ca h9 na))))))))))))) k
theorem mg {X:Cx} {res:SV} {new:List (Option Vw)} {n1:Nat} {g2:Nat→Int} {n3:Nat} {g4:Nat→Int} {x1 x2:Int} {n5_:Nat} {g1051:Nat→Int} {n6_:Nat} {g1061:Nat→Int} {r5003 r5004:Int} {q5005:Nat→Int} (hX:Fi X 229 [ri n1 g2,ri n3 g4] res new) (h0:x2<((n1:Nat):Int)) (h1:S 64 [.agg [.sl 0 n1],I x2] [ri n1 g2] (I r5003) []) (h2:S 64 [.agg [.sl 0 n3],I x2] [ri n3 g4] (I r5004) []) (h3:aj .i64 (r5003-r5004)) (h4:aj .i64 ((r5003-r5004)-x1)) (h5: ¬((r5003-r5004)-x1)<0) (h6: ∀ k,k<(n5_+1)→q5005 k=if k<n5_ then(g1051 k)else((r5003-r5004)-x1)) (h7:(n5_+1)*8≤140737488355328) (h8:aj .i64 (x2+1)) (k:Ok X (aV n1 g2 n3 g4 0 (x2+1) (n5_+1) q5005 n6_ g1061)):
  Ok X (aV n1 g2 n3 g4 x1 x2 n5_ g1051 n6_ g1061):=
 Ok.bg 44 [tb, .draw 8 [] 0, .call [0] (I r5003) [], .call [1] (I r5004) [],fb, .row (fun i=>[I ((r5003-r5004)-x1)]), .row (fun i=>[I (q5005 i)])] [cN 35 [2,3,4,5,6,7]] [.ae 0, .ae 1, .ae 2, .ae 3, .ae 4, .ae 8, .ae 6] 2 hX.P hX.gl hX.n0 (by kernel_rfl) (by kernel_rfl) (by exact⟨fun _=>rfl,fun _=>rfl,rfl,rfl,rfl,fun _=>rfl,fun _=>rfl,trivial⟩) (ca (dt h0) (ca h1 (ca h2 (ca h3 (ca h4 (ca (df h5) (ca (show ∀ k,k<1→(fun i=>[I ((r5003-r5004)-x1)]) k=[[I ((r5003-r5004)-x1)]].getD k []from by intro k hk;match k,hk with|0,_=>rfl|k+1,hk=>omega) (ca (re 1) (ca (re n5_) (ca h7 (ca (show ∀ k,k<n5_+1→(fun i=>[I (q5005 i)]) k=if k<n5_ then(fun i=>[I (g1051 i)]) k else(fun i=>[I ((r5003-r5004)-x1)]) (k-n5_)from fun k hk=>by
   have e0:=h6 k hk
   by_cases c:k<n5_
   ·simp_all
   ·rw[if_neg c]at e0⊢;simp only[e0]) (ca h8 na)))))))))))) k
theorem me {X:Cx} {n1:Nat} {g2:Nat→Int} {n3:Nat} {g4:Nat→Int} {x1 x2:Int} {n5_:Nat} {g1051:Nat→Int} {n6_:Nat} {g1061:Nat→Int} {n5003:Nat} {g5004:Nat→Int} (hX:Fi X 229 [ri n1 g2,ri n3 g4] (.agg [.sl 2 n5003]) [ro n5003 g5004]) (h0: ¬x2<((n1:Nat):Int)) (h1:S 65 [.sl 0 n5_] [ri n5_ g1051] (.agg [.sl 1 n5003]) [ro n5003 g5004]):
  Ok X (aV n1 g2 n3 g4 x1 x2 n5_ g1051 n6_ g1061):=
 Ok.fin 17 [fb, .call [5] (.agg [.sl 1 n5003]) [ro n5003 g5004]] [7] 8 hX (by kernel_rfl) rfl (ca (df h0) (ca h1 na))
theorem wb {X:Cx} {a b:Nat} (ha:ln a≤10000) (hab:b≤a) (hX:av X Tryz.prog GL 229 [BR false a,BR false b] (.agg [.sl 2 (ln (a-b))]) [BR true (a-b)]):
  ∀ (m i c:Nat) (F:Nat→Nat) (n6:Nat) (g6:Nat→Int),ln a-i=m→i≤ln a→(∀ k,k<i→F k<10000)→vl F i+b%10000^i=a%10000^i+c*10000^i→c≤1→
    Ok X (aV (ln a) (dg a) (ln b) (dg b) (c:Int) (i:Int) i (fun k=>((F k:Nat):Int)) n6 g6)
 |0,i,c,F,n6,g6,hm,hi,hF,hv,hc=>by
  have e:i=ln a:=by omega
  have hlb:ln b≤ln a:=ed hab
  rw[e,fx (Nat.le_refl _),fx hlb]at hv
  have h1:=xp hF
  rw[e]at h1
  have hc0:c=0:=by
   grind
  have h2:vl F i=a-b:=by rw[e];rw[hc0]at hv;omega
  have h3:=trim hF (n:=i) (by omega)
  rw[h2]at h3
  exact me hX (by omega) h3
 |m+1,i,c,F,n6,g6,hm,hi,hF,hv,hc=>by
  have h1:=iq a i
  have h2:=iq b i
  have key: ∀ (d c':Nat),d<10000→c'≤1→d+cC b i+c=cC a i+c'*10000→Ok X (aV (ln a) (dg a) (ln b) (dg b) (c':Int) ((i:Int)+1) (i+1) (fun k=>(((if k<i then F k else d):Nat):Int)) n6 g6):=by
   intro d c' hd hc' he
   refine wb ha hab hX m (i+1) c' _ n6 g6 (by omega) (by omega) ?_ ?_ hc'
   ·grind
   ·rw[pW,mB (g:=F) (fun k hk=>if_pos hk),if_neg (by omega),mod_succ,mod_succ,Nat.pow_succ]
    grind
  have hd:dg a i=(cC a i:Int):=rfl
  have hd':dg b i=(cC b i:Int):=rfl
  by_cases h3:cC a i<cC b i+c
  ·refine mh (q5005:=fun k=>(((if k<i then F k else cC a i+10000-cC b i-c):Nat):Int)) hX (by omega) part part (by rw[hd,hd'];simp only[aj];omega) (by rw[hd,hd'];simp only[aj];omega) (by rw[hd,hd'];omega) (by rw[hd,hd'];simp only[aj];omega) ?_ (by omega) (by simp only[aj];omega) (key _ 1 (by omega) (by omega) (by omega))
   intro k hk
   split
   all_goals omega
  ·refine mg (q5005:=fun k=>(((if k<i then F k else cC a i-cC b i-c):Nat):Int)) hX (by omega) part part (by rw[hd,hd'];simp only[aj];omega) (by rw[hd,hd'];simp only[aj];omega) (by rw[hd,hd'];omega) ?_ (by omega) (by simp only[aj];omega) (key _ 0 (by omega) (by omega) (by omega))
   intro k hk
   split
   all_goals omega
theorem LY {a b:Nat} (ha:ln a≤10000) (hab:b≤a):ab Tryz.prog GL 229 [.agg [.sl 0 (ln a)], .agg [.sl 1 (ln b)]] [BR false a,BR false b] (.agg [.sl 2 (ln (a-b))]) [BR true (a-b)]:=by
 refine ab.of (by kernel_rfl) rfl ⟨fun i=>rfl,fun i=>rfl,trivial⟩ rfl (fun X hX=> ?_)
 exact mi hX (wb ha hab hX _ 0 0 (fun _=>0) 0 (fun _=>default) rfl (by omega) (fun k hk=>by omega) (by simp[vl,Nat.mod_one]) (by omega))
noncomputable def bB (n1:Nat) (g2:Nat→Int) (n3:Nat) (g4:Nat→Int) (x1:Int) (n5_:Nat) (g1051:Nat→Int) (n6_:Nat) (g1061:Nat→Int):SC:=
 ⟨[⟨41,bJ 66 [(2, .ptr 2 0),(3, .ptr 3 0),(4, .ptr 4 0),(5, .sl 5 n5_),(6,I x1)],[.code (aa Tryz.f41 [1,1,0,1,0,0]), .inLoop (aa Tryz.f41 [1,1,0,1,0,0]), .inBlock 0, .code (aa Tryz.f41 [1,1,1])],{}⟩],[ri n1 g2,ri n3 g4,some (.box true [.sl 0 n1]),some (.box true [.sl 1 n3]),some (.box true [.sl 6 n6_]),ro n5_ g1051,ro n6_ g1061]⟩
theorem l0 {X:Cx} {res:SV} {new:List (Option Vw)} {n1:Nat} {g2:Nat→Int} {n3:Nat} {g4:Nat→Int} (hX:Fi X 41 [ri n1 g2,ri n3 g4] res new) (h0:aj .i64 (((n1:Nat):Int)+((n3:Nat):Int))) (h1:aj .i64 ((((n1:Nat):Int)+((n3:Nat):Int))+1)) (h2:(0:Int)≤((((n1:Nat):Int)+((n3:Nat):Int))+1)) (h3:((8:Nat):Int)*((((n1:Nat):Int)+((n3:Nat):Int))+1)≤281474976710656) (h4:((((n1:Nat):Int)+((n3:Nat):Int))+1:Int)≤9223372036854775807) (k:Ok X (bB n1 g2 n3 g4 0 (((((n1:Nat):Int)+((n3:Nat):Int))+1).toNat) (fun i=>0) 0 (fun _=>default))):
  Ok X (entry Tryz.prog 41 [.agg [.sl 0 n1], .agg [.sl 1 n3]] [ri n1 g2,ri n3 g4]):=
 Ok.bg 26 [] [cN 66 [2,3,4,5,6]] [.ae 0, .ae 1, .ae 2, .ae 3, .ae 4, .ae 5, .nil 1] 2 hX.P hX.gl hX.n0 (by kernel_rfl) (by kernel_rfl) (by exact⟨fun _=>rfl,fun _=>rfl,rfl,rfl,rfl,fun _=>rfl,fun _=>rfl,trivial⟩) (ca h0 (ca h1 (ca (show((((n1:Nat):Int)+((n3:Nat):Int))+1:Int)=((((n1:Nat):Int)+((n3:Nat):Int))+1)from rfl) (ca h2 (ca h3 (ca h4 na)))))) k
noncomputable def aR (n1:Nat) (g2:Nat→Int) (n3:Nat) (g4:Nat→Int) (x1:Int) (x2:Int) (x3:Int) (n5_:Nat) (g1051:Nat→Int) (n6_:Nat) (g1061:Nat→Int):SC:=
 ⟨[⟨41,bJ 66 [(2, .ptr 2 0),(3, .ptr 3 0),(4, .ptr 4 0),(5, .sl 5 n5_),(6,I x1),(7,I x2),(8,I x3)],[.code (aa Tryz.f41 [1,1,0,1,0,0,1,0,0,1,1,0,0]), .inLoop (aa Tryz.f41 [1,1,0,1,0,0,1,0,0,1,1,0,0]), .inBlock 2, .inBlock 1, .code (aa Tryz.f41 [1,1,0,1,0,0,1,1]), .inLoop (aa Tryz.f41 [1,1,0,1,0,0]), .inBlock 0, .code (aa Tryz.f41 [1,1,1])],{}⟩],[ri n1 g2,ri n3 g4,some (.box true [.sl 0 n1]),some (.box true [.sl 1 n3]),some (.box true [.sl 6 n6_]),ro n5_ g1051,ro n6_ g1061]⟩
theorem lZ {X:Cx} {res:SV} {new:List (Option Vw)} {n1:Nat} {g2:Nat→Int} {n3:Nat} {g4:Nat→Int} {x1:Int} {n5_:Nat} {g1051:Nat→Int} {n6_:Nat} {g1061:Nat→Int} (hX:Fi X 41 [ri n1 g2,ri n3 g4] res new) (h0:x1<((n1:Nat):Int)) (k:Ok X (aR n1 g2 n3 g4 x1 0 0 n5_ g1051 n6_ g1061)):
  Ok X (bB n1 g2 n3 g4 x1 n5_ g1051 n6_ g1061):=
 Ok.bg 23 [tb] [cN 66 [2,3,4,5,6,7,8]] [.ae 0, .ae 1, .ae 2, .ae 3, .ae 4, .ae 5, .ae 6] 2 hX.P hX.gl hX.n0 (by kernel_rfl) (by kernel_rfl) (by exact⟨fun _=>rfl,fun _=>rfl,rfl,rfl,rfl,fun _=>rfl,fun _=>rfl,trivial⟩) (ca (dt h0) na) k
theorem lX {X:Cx} {n1:Nat} {g2:Nat→Int} {n3:Nat} {g4:Nat→Int} {x1:Int} {n5_:Nat} {g1051:Nat→Int} {n6_:Nat} {g1061:Nat→Int} {n5002:Nat} {g5003:Nat→Int} (hX:Fi X 41 [ri n1 g2,ri n3 g4] (.agg [.sl 2 n5002]) [ro n5002 g5003]) (h0: ¬x1<((n1:Nat):Int)) (h1:S 65 [.sl 0 n5_] [ri n5_ g1051] (.agg [.sl 1 n5002]) [ro n5002 g5003]):
  Ok X (bB n1 g2 n3 g4 x1 n5_ g1051 n6_ g1061):=
 Ok.fin 17 [fb, .call [5] (.agg [.sl 1 n5002]) [ro n5002 g5003]] [7] 8 hX (by kernel_rfl) rfl (ca (df h0) (ca h1 na))
theorem lW {X:Cx} {res:SV} {new:List (Option Vw)} {n1:Nat} {g2:Nat→Int} {n3:Nat} {g4:Nat→Int} {x1 x2 x3:Int} {n5_:Nat} {g1051:Nat→Int} {n6_:Nat} {g1061:Nat→Int} {r5004:Int} {q5005:Nat→Int} (hX:Fi X 41 [ri n1 g2,ri n3 g4] res new) (h0:x3<((n3:Nat):Int)) (h1:aj .i64 (x1+x3)) (h2:(0:Int)≤(x1+x3)∧(x1+x3)<((n5_:Nat):Int)) (h3:(0:Int)≤x1∧x1<((n1:Nat):Int)) (h4:S 64 [.agg [.sl 0 n3],I x3] [ri n3 g4] (I r5004) []) (h5:aj .i64 ((g2 x1.toNat)*r5004)) (h6:aj .i64 ((g1051 ((x1+x3).toNat))+((g2 x1.toNat)*r5004))) (h7:aj .i64 (((g1051 ((x1+x3).toNat))+((g2 x1.toNat)*r5004))+x2)) (h8:(0:Int)≤(((g1051 ((x1+x3).toNat))+((g2 x1.toNat)*r5004))+x2)) (h9: ∀ k,k<n5_→q5005 k=if k=((x1+x3).toNat)then((((g1051 ((x1+x3).toNat))+((g2 x1.toNat)*r5004))+x2)%10000)else(g1051 k)) (h10:aj .i64 ((((g1051 ((x1+x3).toNat))+((g2 x1.toNat)*r5004))+x2)/10000)) (h11:aj .i64 (x3+1)) (k:Ok X (aR n1 g2 n3 g4 x1 ((((g1051 ((x1+x3).toNat))+((g2 x1.toNat)*r5004))+x2)/10000) (x3+1) n5_ q5005 n6_ g1061)):
  Ok X (aR n1 g2 n3 g4 x1 x2 x3 n5_ g1051 n6_ g1061):=
 Ok.bg 45 [tb,tb,tb,tb, .draw 17 [] 0, .call [1] (I r5004) [], .row (fun i=>[I (q5005 i)])] [cN 66 [2,3,4,5,6,7,8]] [.ae 0, .ae 1, .ae 2, .ae 3, .ae 4, .ae 5, .ae 6] 2 hX.P hX.gl hX.n0 (by kernel_rfl) (by kernel_rfl) (by exact⟨fun _=>rfl,fun _=>rfl,rfl,rfl,rfl,fun _=>rfl,fun _=>rfl,trivial⟩) (ca (dt h0) (ca (dt h0) (ca (dt h0) (ca rt (ca h1 (ca h2 (ca (re n5_) (ca h2 (ca h3 (ca (re n1) (ca h3 (ca h4 (ca h5 (ca h6 (ca h7 (ca h1 (ca h8 (ca (show(0:Int)<10000 from by decide) (ca h2 (ca (re n5_) (ca h2 (ca (show ∀ k,k<n5_→(fun i=>[I (q5005 i)]) k=if k=((x1+x3).toNat)then fa ((fun i=>[I (g1051 i)]) k) 0 [I ((((g1051 ((x1+x3).toNat))+((g2 x1.toNat)*r5004))+x2)%10000)]else(fun i=>[I (g1051 i)]) k from fun k hk=>by
   have e0:=h9 k hk
   by_cases c:k=((x1+x3).toNat)
   ·rw[if_pos c]at e0⊢;simp only[e0];try rfl
   ·rw[if_neg c]at e0⊢;simp only[e0]) (ca h8 (ca (show(0:Int)<10000 from by decide) (ca h10 (ca h11 na)))))))))))))))))))))))))) k
theorem lV {X:Cx} {res:SV} {new:List (Option Vw)} {n1:Nat} {g2:Nat→Int} {n3:Nat} {g4:Nat→Int} {x1 x2 x3:Int} {n5_:Nat} {g1051:Nat→Int} {n6_:Nat} {g1061:Nat→Int} {r5004:Int} {q5005:Nat→Int} (hX:Fi X 41 [ri n1 g2,ri n3 g4] res new) (h0: ¬x3<((n3:Nat):Int)) (h1:x2>0) (h2:aj .i64 (x1+x3)) (h3:(0:Int)≤(x1+x3)∧(x1+x3)<((n5_:Nat):Int)) (h4:(0:Int)≤x1∧x1<((n1:Nat):Int)) (h5:S 64 [.agg [.sl 0 n3],I x3] [ri n3 g4] (I r5004) []) (h6:aj .i64 ((g2 x1.toNat)*r5004)) (h7:aj .i64 ((g1051 ((x1+x3).toNat))+((g2 x1.toNat)*r5004))) (h8:aj .i64 (((g1051 ((x1+x3).toNat))+((g2 x1.toNat)*r5004))+x2)) (h9:(0:Int)≤(((g1051 ((x1+x3).toNat))+((g2 x1.toNat)*r5004))+x2)) (h10: ∀ k,k<n5_→q5005 k=if k=((x1+x3).toNat)then((((g1051 ((x1+x3).toNat))+((g2 x1.toNat)*r5004))+x2)%10000)else(g1051 k)) (h11:aj .i64 ((((g1051 ((x1+x3).toNat))+((g2 x1.toNat)*r5004))+x2)/10000)) (h12:aj .i64 (x3+1)) (k:Ok X (aR n1 g2 n3 g4 x1 ((((g1051 ((x1+x3).toNat))+((g2 x1.toNat)*r5004))+x2)/10000) (x3+1) n5_ q5005 n6_ g1061)):
  Ok X (aR n1 g2 n3 g4 x1 x2 x3 n5_ g1051 n6_ g1061):=
 Ok.bg 45 [fb,fb,fb,tb, .draw 17 [] 0, .call [1] (I r5004) [], .row (fun i=>[I (q5005 i)])] [cN 66 [2,3,4,5,6,7,8]] [.ae 0, .ae 1, .ae 2, .ae 3, .ae 4, .ae 5, .ae 6] 2 hX.P hX.gl hX.n0 (by kernel_rfl) (by kernel_rfl) (by exact⟨fun _=>rfl,fun _=>rfl,rfl,rfl,rfl,fun _=>rfl,fun _=>rfl,trivial⟩) (ca (df h0) (ca (df h0) (ca (df h0) (ca (dt h1) (ca h2 (ca h3 (ca (re n5_) (ca h3 (ca h4 (ca (re n1) (ca h4 (ca h5 (ca h6 (ca h7 (ca h8 (ca h2 (ca h9 (ca (show(0:Int)<10000 from by decide) (ca h3 (ca (re n5_) (ca h3 (ca (show ∀ k,k<n5_→(fun i=>[I (q5005 i)]) k=if k=((x1+x3).toNat)then fa ((fun i=>[I (g1051 i)]) k) 0 [I ((((g1051 ((x1+x3).toNat))+((g2 x1.toNat)*r5004))+x2)%10000)]else(fun i=>[I (g1051 i)]) k from fun k hk=>by
   have e0:=h10 k hk
   by_cases c:k=((x1+x3).toNat)
   ·rw[if_pos c]at e0⊢;simp only[e0];try rfl
   ·rw[if_neg c]at e0⊢;simp only[e0]) (ca h9 (ca (show(0:Int)<10000 from by decide) (ca h11 (ca h12 na)))))))))))))))))))))))))) k
theorem lT {X:Cx} {res:SV} {new:List (Option Vw)} {n1:Nat} {g2:Nat→Int} {n3:Nat} {g4:Nat→Int} {x1 x2 x3:Int} {n5_:Nat} {g1051:Nat→Int} {n6_:Nat} {g1061:Nat→Int} (hX:Fi X 41 [ri n1 g2,ri n3 g4] res new) (h0: ¬x3<((n3:Nat):Int)) (h1: ¬x2>0) (h2:aj .i64 (x1+1)) (k:Ok X (bB n1 g2 n3 g4 (x1+1) n5_ g1051 n6_ g1061)):
  Ok X (aR n1 g2 n3 g4 x1 x2 x3 n5_ g1051 n6_ g1061):=
 Ok.bg 22 [fb,fb,fb,fb] [cN 66 [2,3,4,5,6]] [.ae 0, .ae 1, .ae 2, .ae 3, .ae 4, .ae 5, .ae 6] 2 hX.P hX.gl hX.n0 (by kernel_rfl) (by kernel_rfl) (by exact⟨fun _=>rfl,fun _=>rfl,rfl,rfl,rfl,fun _=>rfl,fun _=>rfl,trivial⟩) (ca (df h0) (ca (df h0) (ca (df h0) (ca (df h1) (ca h2 na))))) k
theorem B2 {X:Cx} {a b i L:Nat} {n6:Nat} {g6:Nat→Int} (hi:i<ln a) (hL:L=ln a+ln b+1) (ha:ln a≤1000) (hb:ln b≤1000) {res:SV} {new:List (Option Vw)} (hX:av X Tryz.prog GL 41 [BR false a,BR false b] res new)
  (k: ∀ F:Nat→Nat,(∀ k,k<L→F k<10000)→vl F L=(a%10000^(i+1))*b→Ok X (bB (ln a) (dg a) (ln b) (dg b) (((i+1:Nat):Int)) L (fun k=>((F k:Nat):Int)) n6 g6)):
  ∀ (m j c:Nat) (F:Nat→Nat),L+1-j=m→i+j≤L→(∀ k,k<L→F k<10000)→vl F L+c*10000^(i+j)=(a%10000^i)*b+cC a i*(b%10000^j)*10000^i→c<10000→
    Ok X (aR (ln a) (dg a) (ln b) (dg b) (i:Int) (c:Int) (j:Int) L (fun k=>((F k:Nat):Int)) n6 g6)
 |0,j,c,F,hm,hj,hF,hv,hc=>by omega
 |m+1,j,c,F,hm,hj,hF,hv,hc=>by
  have h1:=iq a i
  have h2:=iq b j
  have hd:dg a i=(cC a i:Int):=rfl
  have hd':dg b j=(cC b j:Int):=rfl
  by_cases hs:j<ln b∨0<c
  ·
   have hlt:i+j<L:=by
    rcases hs with h|h
    ·omega
    ·refine Nat.lt_of_not_le (fun h3=> ?_)
     have h4:(a%10000^i)*b+cC a i*(b%10000^j)*10000^i≤(a%10000^(i+1))*b:=by
      rw[mod_succ,Nat.add_mul]
      have h5:=Nat.mod_le b (10000^j)
      have h6:cC a i*(b%10000^j)*10000^i≤cC a i*b*10000^i:=Nat.mul_le_mul_right _ (Nat.mul_le_mul_left _ h5)
      grind
     have h5:(a%10000^(i+1))*b≤a*b:=Nat.mul_le_mul_right _ (Nat.mod_le _ _)
     have h6:a*b<10000^(ln a+ln b):=bc.1 (ia a b)
     have h7:10000^(ln a+ln b)≤10000^(i+j):=tm.2 (by omega)
     have h8:1*10000^(i+j)≤c*10000^(i+j):=Nat.mul_le_mul_right _ h
     omega
   have h3:=hF (i+j) hlt
   have h4:cC a i*cC b j≤9999*9999:=Nat.mul_le_mul (by omega) (by omega)
   have h5:(cC a i:Int)*(cC b j:Int)=((cC a i*cC b j:Nat):Int):=by simp
   have e1:((i:Int)+(j:Int)).toNat=i+j:=by omega
   have e2:(i:Int).toNat=i:=rfl
   have e:((F (i+j):Nat):Int)+dg a i*dg b j+(c:Int)=((F (i+j)+cC a i*cC b j+c:Nat):Int):=by rw[hd,hd',h5];omega
   have hgo:Ok X (aR (ln a) (dg a) (ln b) (dg b) (i:Int) ((((F (i+j):Nat):Int)+dg a i*dg b j+(c:Int))/10000) ((j:Int)+1) L (fun k=>(((if k=i+j then(F (i+j)+cC a i*cC b j+c)%10000 else F k):Nat):Int)) n6 g6):=by
    rw[e,show((F (i+j)+cC a i*cC b j+c:Nat):Int)/10000=(((F (i+j)+cC a i*cC b j+c)/10000:Nat):Int)from rfl]
    refine B2 hi hL ha hb hX k m (j+1) _ _ (by omega) (by omega) ?_ ?_ (by omega)
    ·grind
    ·have h6:= @CT F (i+j) ((F (i+j)+cC a i*cC b j+c)%10000) L hlt
     have h7:=Nat.div_add_mod (F (i+j)+cC a i*cC b j+c) 10000
     generalize (F (i+j)+cC a i*cC b j+c)/10000=q at*
     generalize (F (i+j)+cC a i*cC b j+c)%10000=r at*
     have h8:(10000*q+r)*10000^(i+j)=(F (i+j)+cC a i*cC b j+c)*10000^(i+j):=by rw[h7]
     rw[mod_succ,←Nat.add_assoc i j 1,Nat.pow_succ,Nat.mul_add,Nat.add_mul]
     grind
   have hq: ∀ k,k<L→(((if k=i+j then(F (i+j)+cC a i*cC b j+c)%10000 else F k):Nat):Int)=if k=((i:Int)+(j:Int)).toNat then(((F (((i:Int)+(j:Int)).toNat):Nat):Int)+dg a (i:Int).toNat*dg b j+(c:Int))%10000 else((F k:Nat):Int):=by
    grind
   have i1:aj .i64 (dg a (i:Int).toNat*dg b j):=by rw[e2,hd,hd',h5];simp only[aj];omega
   have i2:aj .i64 (((F (((i:Int)+(j:Int)).toNat):Nat):Int)+dg a (i:Int).toNat*dg b j):=by rw[e1,e2,hd,hd',h5];simp only[aj];omega
   have i3:aj .i64 (((F (((i:Int)+(j:Int)).toNat):Nat):Int)+dg a (i:Int).toNat*dg b j+(c:Int)):=by rw[e1,e2,e];simp only[aj];omega
   have i4:(0:Int)≤(((F (((i:Int)+(j:Int)).toNat):Nat):Int)+dg a (i:Int).toNat*dg b j+(c:Int)):=by rw[e1,e2,e];omega
   have i5:aj .i64 ((((F (((i:Int)+(j:Int)).toNat):Nat):Int)+dg a (i:Int).toNat*dg b j+(c:Int))/10000):=by rw[e1,e2,e];simp only[aj];omega
   have hgo':Ok X (aR (ln a) (dg a) (ln b) (dg b) (i:Int) ((((F (((i:Int)+(j:Int)).toNat):Nat):Int)+dg a (i:Int).toNat*dg b j+(c:Int))/10000) ((j:Int)+1) L (fun k=>(((if k=i+j then(F (i+j)+cC a i*cC b j+c)%10000 else F k):Nat):Int)) n6 g6):=by rw[e1];exact hgo
   by_cases h6:j<ln b
   ·exact lW hX (by omega) (by simp only[aj];omega) (by omega) (by omega) part i1 i2 i3 i4 hq i5 (by simp only[aj];omega) hgo'
   ·exact lV hX (by omega) (by omega) (by simp only[aj];omega) (by omega) (by omega) part i1 i2 i3 i4 hq i5 (by simp only[aj];omega) hgo'
  ·have hc0:c=0:=by omega
   subst hc0
   refine lT hX (by omega) (by omega) (by simp only[aj];omega) ?_
   refine k F hF ?_
   rw[fx (v:=b) (by omega),Nat.zero_mul,Nat.add_zero]at hv
   rw[hv,mod_succ,Nat.add_mul,Nat.mul_assoc,Nat.mul_comm b,←Nat.mul_assoc]
theorem yV {X:Cx} {a b L:Nat} {n6:Nat} {g6:Nat→Int} (hL:L=ln a+ln b+1) (ha:ln a≤1000) (hb:ln b≤1000) (hX:av X Tryz.prog GL 41 [BR false a,BR false b] (.agg [.sl 2 (ln (a*b))]) [BR true (a*b)]):
  ∀ (m i:Nat) (F:Nat→Nat),ln a-i=m→i≤ln a→(∀ k,k<L→F k<10000)→vl F L=(a%10000^i)*b→Ok X (bB (ln a) (dg a) (ln b) (dg b) (i:Int) L (fun k=>((F k:Nat):Int)) n6 g6)
 |0,i,F,hm,hi,hF,hv=>by
  have e:i=ln a:=by omega
  rw[e,fx (Nat.le_refl _)]at hv
  have h3:=trim hF (by omega)
  rw[hv]at h3
  exact lX hX (by omega) h3
 |m+1,i,F,hm,hi,hF,hv=>by
  refine lZ hX (by omega) ?_
  refine B2 (by omega) hL ha hb hX (fun F' hF' hv'=>yV hL ha hb hX m (i+1) F' (by omega) (by omega) hF' hv') _ 0 0 F rfl (by omega) hF ?_ (by omega)
  rw[hv];simp[Nat.mod_one]
theorem Prod {a b:Nat} (ha:ln a≤1000) (hb:ln b≤1000):ab Tryz.prog GL 41 [.agg [.sl 0 (ln a)], .agg [.sl 1 (ln b)]] [BR false a,BR false b] (.agg [.sl 2 (ln (a*b))]) [BR true (a*b)]:=by
 refine ab.of (by kernel_rfl) rfl ⟨fun i=>rfl,fun i=>rfl,trivial⟩ rfl (fun X hX=> ?_)
 refine l0 hX (by simp only[aj];omega) (by simp only[aj];omega) (by omega) (by omega) (by omega) ?_
 rw[show((((ln a:Nat):Int)+((ln b:Nat):Int))+1).toNat=ln a+ln b+1 by omega]
 exact yV (F:=fun _=>0) rfl ha hb hX _ 0 rfl (by omega) (fun k hk=>by omega) (by rw[AN (fun i hi=>rfl)];simp[Nat.mod_one])
end Go.Proofs.YtelidogcomffkaaGreatDoor
namespace Go.Proofs.YtelidogcomffkaaGreatDoor
open Go Go.Sx
variable [Env]
noncomputable def bA (n1:Nat) (g2:Nat→Int) (n3:Nat) (g4:Nat→Int) (x1:Int) (n6_:Nat) (g1061:Nat→Int) (n8_:Nat) (g1081:Nat→Int) (n9_:Nat) (g1091:Nat→Int) (n10_:Nat) (g1101:Nat→Int):SC:=
 ⟨[⟨198,bJ 65 [(2, .ptr 2 0),(3, .ptr 3 0),(4, .ptr 4 0),(5, .ptr 5 0),(6, .sl 6 n6_),(7, .ptr 7 0),(8,I x1)],[.code (aa Tryz.f198 [1,1,1,0,1,0,0]), .inLoop (aa Tryz.f198 [1,1,1,0,1,0,0]), .inBlock 0, .code (aa Tryz.f198 [1,1,1,1])],{}⟩],[ri n1 g2,ri n3 g4,some (.box true [.sl 0 n1]),some (.box true [.sl 1 n3]),some (.box true [.sl 8 n8_]),some (.box true [.sl 9 n9_]),ro n6_ g1061,some (.box true [.sl 10 n10_]),ro n8_ g1081,ro n9_ g1091,ro n10_ g1101]⟩
theorem lS {X:Cx} {res:SV} {new:List (Option Vw)} {n1:Nat} {g2:Nat→Int} {n3:Nat} {g4:Nat→Int} (hX:Fi X 198 [ri n1 g2,ri n3 g4] res new) (h0:(0:Int)≤((n1:Nat):Int)) (h1:((8:Nat):Int)*((n1:Nat):Int)≤281474976710656) (h2:(((n1:Nat):Int):Int)≤9223372036854775807) (h3:aj .i64 (((n1:Nat):Int)-1)) (k:Ok X (bA n1 g2 n3 g4 (((n1:Nat):Int)-1) (((n1:Nat):Int).toNat) (fun i=>0) 0 (fun _=>default) 0 (fun _=>default) 0 (fun _=>default))):
  Ok X (entry Tryz.prog 198 [.agg [.sl 0 n1], .agg [.sl 1 n3]] [ri n1 g2,ri n3 g4]):=
 Ok.bg 32 [] [cN 65 [2,3,4,5,6,7,8]] [.ae 0, .ae 1, .ae 2, .ae 3, .ae 4, .ae 5, .ae 6, .ae 7, .nil 1, .nil 1, .nil 1] 2 hX.P hX.gl hX.n0 (by kernel_rfl) (by kernel_rfl) (by exact⟨fun _=>rfl,fun _=>rfl,rfl,rfl,rfl,rfl,fun _=>rfl,rfl,fun _=>rfl,fun _=>rfl,fun _=>rfl,trivial⟩) (ca (show(((n1:Nat):Int):Int)=((n1:Nat):Int)from rfl) (ca h0 (ca h1 (ca h2 (ca h3 na))))) k
noncomputable def bh (n1:Nat) (g2:Nat→Int) (n3:Nat) (g4:Nat→Int) (x1:Int) (x2:Int) (x3:Int) (n6_:Nat) (g1061:Nat→Int) (n8_:Nat) (g1081:Nat→Int) (n9_:Nat) (g1091:Nat→Int) (n13_:Nat) (g1131:Nat→Int):SC:=
 ⟨[⟨198,bJ 65 [(2, .ptr 2 0),(3, .ptr 3 0),(4, .ptr 4 0),(5, .ptr 5 0),(6, .sl 6 n6_),(7, .ptr 7 0),(8,I x1),(9,I x2),(10,I x3)],[.code (aa Tryz.f198 [1,1,1,0,1,0,0,1,0,0,1,1,1,0,0,0]), .inLoop (aa Tryz.f198 [1,1,1,0,1,0,0,1,0,0,1,1,1,0,0,0]), .inBlock 2, .code (aa Tryz.f198 [1,1,1,0,1,0,0,1,0,0,1,1,1,1]), .inBlock 1, .code (aa Tryz.f198 [1,1,1,0,1,0,0,1,1]), .inLoop (aa Tryz.f198 [1,1,1,0,1,0,0]), .inBlock 0, .code (aa Tryz.f198 [1,1,1,1])],{}⟩],[ri n1 g2,ri n3 g4,some (.box true [.sl 0 n1]),some (.box true [.sl 1 n3]),some (.box true [.sl 8 n8_]),some (.box true [.sl 9 n9_]),ro n6_ g1061,some (.box true [.sl 13 n13_]),ro n8_ g1081,ro n9_ g1091,none,none,none,ro n13_ g1131]⟩
theorem lR {X:Cx} {res:SV} {new:List (Option Vw)} {n1:Nat} {g2:Nat→Int} {n3:Nat} {g4:Nat→Int} {x1:Int} {n6_:Nat} {g1061:Nat→Int} {n8_:Nat} {g1081:Nat→Int} {n9_:Nat} {g1091:Nat→Int} {n10_:Nat} {g1101 q5002:Nat→Int} {n5003:Nat} {g5004:Nat→Int} (hX:Fi X 198 [ri n1 g2,ri n3 g4] res new) (h0:x1≥0) (h1:(0:Int)≤x1∧x1<((n1:Nat):Int)) (h2: ∀ k,k<(1+n10_)→q5002 k=if k<1 then(g2 x1.toNat)else(g1101 (k-1))) (h3:(1+n10_)*8≤140737488355328) (h4:S 65 [.sl 0 (1+n10_)] [ri (1+n10_) q5002] (.agg [.sl 1 n5003]) [ro n5003 g5004]) (k:Ok X (bh n1 g2 n3 g4 x1 0 10000 n6_ g1061 n8_ g1081 n9_ g1091 n5003 g5004)):
  Ok X (bA n1 g2 n3 g4 x1 n6_ g1061 n8_ g1081 n9_ g1091 n10_ g1101):=
 Ok.bg 27 [tb, .draw 8 [] 0, .row (fun i=>[I (g2 x1.toNat)]), .row (fun i=>[I (q5002 i)]), .call [12] (.agg [.sl 1 n5003]) [ro n5003 g5004]] [cN 65 [2,3,4,5,6,7,8,9,10]] [.ae 0, .ae 1, .ae 2, .ae 3, .ae 4, .ae 5, .ae 6, .ae 7, .ae 8, .ae 9, .ae 1010, .ae 1011, .ae 1012, .ae 13] 2 hX.P hX.gl hX.n0 (by kernel_rfl) (by kernel_rfl) (by exact⟨fun _=>rfl,fun _=>rfl,rfl,rfl,rfl,rfl,fun _=>rfl,rfl,fun _=>rfl,fun _=>rfl,fun _=>rfl,trivial⟩) (ca (dt h0) (ca h1 (ca (re n1) (ca h1 (ca (show ∀ k,k<1→(fun i=>[I (g2 x1.toNat)]) k=[[I (g2 x1.toNat)]].getD k []from by intro k hk;match k,hk with|0,_=>rfl|k+1,hk=>omega) (ca (re n10_) (ca (re 1) (ca h3 (ca (show ∀ k,k<1+n10_→(fun i=>[I (q5002 i)]) k=if k<1 then(fun i=>[I (g2 x1.toNat)]) k else(fun i=>[I (g1101 i)]) (k-1)from fun k hk=>by
   have e0:=h2 k hk
   by_cases c:k<1
   ·simp_all
   ·rw[if_neg c]at e0⊢;simp only[e0]) (ca h4 na)))))))))) k
theorem lQ {X:Cx} {n1:Nat} {g2:Nat→Int} {n3:Nat} {g4:Nat→Int} {x1:Int} {n6_:Nat} {g1061:Nat→Int} {n8_:Nat} {g1081:Nat→Int} {n9_:Nat} {g1091:Nat→Int} {n10_:Nat} {g1101:Nat→Int} {n5002:Nat} {g5003:Nat→Int} (hX:Fi X 198 [ri n1 g2,ri n3 g4] (.af [.agg [.sl 2 n5002], .agg [.sl 3 n10_]]) [ro n5002 g5003,ro n10_ g1101]) (h0: ¬x1≥0) (h1:S 65 [.sl 0 n6_] [ri n6_ g1061] (.agg [.sl 1 n5002]) [ro n5002 g5003]):
  Ok X (bA n1 g2 n3 g4 x1 n6_ g1061 n8_ g1081 n9_ g1091 n10_ g1101):=
 Ok.fin 12 [fb, .draw 3 [2] 1, .call [6] (.agg [.sl 1 n5002]) [ro n5002 g5003]] [11,10] 12 hX (by kernel_rfl) rfl (ca (df h0) (ca h1 (ca (show(.agg [.sl 10 n10_]:SV)= .agg [.sl 10 n10_]from rfl) (ca (show(.agg [.sl 10 n10_]:SV)= .agg [.sl 10 n10_]from rfl) na))))
theorem lP {X:Cx} {res:SV} {new:List (Option Vw)} {n1:Nat} {g2:Nat→Int} {n3:Nat} {g4:Nat→Int} {x1 x2 x3:Int} {n6_:Nat} {g1061:Nat→Int} {n8_:Nat} {g1081:Nat→Int} {n9_:Nat} {g1091:Nat→Int} {n13_:Nat} {g1131:Nat→Int} {n5004:Nat} {g5005:Nat→Int} {n5006:Nat} {g5007:Nat→Int} {r5008:Int} (hX:Fi X 198 [ri n1 g2,ri n3 g4] res new) (h0:aj .i64 (x3-x2)) (h1:(x3-x2)>1) (h2:aj .i64 (x2+x3)) (h3:(0:Int)≤(x2+x3)) (h4:aj .i64 ((x2+x3)/2)) (h5:S 42 [I ((x2+x3)/2)] [] (.agg [.sl 0 n5004]) [ro n5004 g5005]) (h6:S 41 [.agg [.sl 0 n3], .agg [.sl 1 n5004]] [ri n3 g4,ri n5004 g5005] (.agg [.sl 2 n5006]) [ro n5006 g5007]) (h7:S 43 [.agg [.sl 0 n5006], .agg [.sl 1 n13_]] [ri n5006 g5007,ri n13_ g1131] (I r5008) []) (h8:r5008≤0) (k:Ok X (bh n1 g2 n3 g4 x1 ((x2+x3)/2) x3 n6_ g1061 n8_ g1081 n9_ g1091 n13_ g1131)):
  Ok X (bh n1 g2 n3 g4 x1 x2 x3 n6_ g1061 n8_ g1081 n9_ g1091 n13_ g1131):=
 Ok.bg 31 [tb, .draw 5 [] 0, .call [] (.agg [.sl 0 n5004]) [ro n5004 g5005], .call [1,14] (.agg [.sl 2 n5006]) [ro n5006 g5007], .call [15,13] (I r5008) [],tb] [cN 65 [2,3,4,5,6,7,8,9,10]] [.ae 0, .ae 1, .ae 2, .ae 3, .ae 4, .ae 5, .ae 6, .ae 7, .ae 8, .ae 9, .ae 1010, .ae 1011, .ae 1012, .ae 13] 2 hX.P hX.gl hX.n0 (by kernel_rfl) (by kernel_rfl) (by exact⟨fun _=>rfl,fun _=>rfl,rfl,rfl,rfl,rfl,fun _=>rfl,rfl,fun _=>rfl,fun _=>rfl,fun _=>rfl,trivial⟩) (ca h0 (ca (dt h1) (ca h2 (ca h3 (ca (show(0:Int)<2 from by decide) (ca h4 (ca h5 (ca h6 (ca h7 (ca (dt h8) na)))))))))) k
theorem lO {X:Cx} {res:SV} {new:List (Option Vw)} {n1:Nat} {g2:Nat→Int} {n3:Nat} {g4:Nat→Int} {x1 x2 x3:Int} {n6_:Nat} {g1061:Nat→Int} {n8_:Nat} {g1081:Nat→Int} {n9_:Nat} {g1091:Nat→Int} {n13_:Nat} {g1131:Nat→Int} {n5004:Nat} {g5005:Nat→Int} {n5006:Nat} {g5007:Nat→Int} {r5008:Int} (hX:Fi X 198 [ri n1 g2,ri n3 g4] res new) (h0:aj .i64 (x3-x2)) (h1:(x3-x2)>1) (h2:aj .i64 (x2+x3)) (h3:(0:Int)≤(x2+x3)) (h4:aj .i64 ((x2+x3)/2)) (h5:S 42 [I ((x2+x3)/2)] [] (.agg [.sl 0 n5004]) [ro n5004 g5005]) (h6:S 41 [.agg [.sl 0 n3], .agg [.sl 1 n5004]] [ri n3 g4,ri n5004 g5005] (.agg [.sl 2 n5006]) [ro n5006 g5007]) (h7:S 43 [.agg [.sl 0 n5006], .agg [.sl 1 n13_]] [ri n5006 g5007,ri n13_ g1131] (I r5008) []) (h8: ¬r5008≤0) (k:Ok X (bh n1 g2 n3 g4 x1 x2 ((x2+x3)/2) n6_ g1061 n8_ g1081 n9_ g1091 n13_ g1131)):
  Ok X (bh n1 g2 n3 g4 x1 x2 x3 n6_ g1061 n8_ g1081 n9_ g1091 n13_ g1131):=
 Ok.bg 31 [tb, .draw 5 [] 0, .call [] (.agg [.sl 0 n5004]) [ro n5004 g5005], .call [1,14] (.agg [.sl 2 n5006]) [ro n5006 g5007], .call [15,13] (I r5008) [],fb] [cN 65 [2,3,4,5,6,7,8,9,10]] [.ae 0, .ae 1, .ae 2, .ae 3, .ae 4, .ae 5, .ae 6, .ae 7, .ae 8, .ae 9, .ae 1010, .ae 1011, .ae 1012, .ae 13] 2 hX.P hX.gl hX.n0 (by kernel_rfl) (by kernel_rfl) (by exact⟨fun _=>rfl,fun _=>rfl,rfl,rfl,rfl,rfl,fun _=>rfl,rfl,fun _=>rfl,fun _=>rfl,fun _=>rfl,trivial⟩) (ca h0 (ca (dt h1) (ca h2 (ca h3 (ca (show(0:Int)<2 from by decide) (ca h4 (ca h5 (ca h6 (ca h7 (ca (df h8) na)))))))))) k
theorem lK {X:Cx} {res:SV} {new:List (Option Vw)} {n1:Nat} {g2:Nat→Int} {n3:Nat} {g4:Nat→Int} {x1 x2 x3:Int} {n6_:Nat} {g1061:Nat→Int} {n8_:Nat} {g1081:Nat→Int} {n9_:Nat} {g1091:Nat→Int} {n13_:Nat} {g1131 q5004:Nat→Int} {n5005:Nat} {g5006:Nat→Int} {n5007:Nat} {g5008:Nat→Int} {n5009:Nat} {g5010:Nat→Int} (hX:Fi X 198 [ri n1 g2,ri n3 g4] res new) (h0:aj .i64 (x3-x2)) (h1: ¬(x3-x2)>1) (h2:(0:Int)≤x1∧x1<((n6_:Nat):Int)) (h3: ∀ k,k<n6_→q5004 k=if k=x1.toNat then x2 else(g1061 k)) (h4:S 42 [I x2] [] (.agg [.sl 0 n5005]) [ro n5005 g5006]) (h5:S 41 [.agg [.sl 0 n3], .agg [.sl 1 n5005]] [ri n3 g4,ri n5005 g5006] (.agg [.sl 2 n5007]) [ro n5007 g5008]) (h6:S 229 [.agg [.sl 0 n13_], .agg [.sl 1 n5007]] [ri n13_ g1131,ri n5007 g5008] (.agg [.sl 2 n5009]) [ro n5009 g5010]) (h7:aj .i64 (x1-1)) (k:Ok X (bA n1 g2 n3 g4 (x1-1) n6_ q5004 n8_ g1081 n9_ g1091 n5009 g5010)):
  Ok X (bh n1 g2 n3 g4 x1 x2 x3 n6_ g1061 n8_ g1081 n9_ g1091 n13_ g1131):=
 Ok.bg 29 [fb, .row (fun i=>[I (q5004 i)]), .draw 5 [] 0, .call [] (.agg [.sl 0 n5005]) [ro n5005 g5006], .call [1,14] (.agg [.sl 2 n5007]) [ro n5007 g5008], .call [13,15] (.agg [.sl 2 n5009]) [ro n5009 g5010]] [cN 65 [2,3,4,5,6,7,8]] [.ae 0, .ae 1, .ae 2, .ae 3, .ae 4, .ae 5, .ae 6, .ae 7, .ae 8, .ae 9, .ae 16] 2 hX.P hX.gl hX.n0 (by kernel_rfl) (by kernel_rfl) (by exact⟨fun _=>rfl,fun _=>rfl,rfl,rfl,rfl,rfl,fun _=>rfl,rfl,fun _=>rfl,fun _=>rfl,fun _=>rfl,trivial⟩) (ca h0 (ca (df h1) (ca h2 (ca (re n6_) (ca h2 (ca (show ∀ k,k<n6_→(fun i=>[I (q5004 i)]) k=if k=x1.toNat then fa ((fun i=>[I (g1061 i)]) k) 0 [I x2]else(fun i=>[I (g1061 i)]) k from fun k hk=>by
   have e0:=h3 k hk
   by_cases c:k=x1.toNat
   ·rw[if_pos c]at e0⊢;simp only[e0];try rfl
   ·rw[if_neg c]at e0⊢;simp only[e0]) (ca h4 (ca h5 (ca h6 (ca h7 na)))))))))) k
theorem xi {X:Cx} {a b j R:Nat} {F:Nat→Nat} {n8 n9:Nat} {g8 g9:Nat→Int} (hj:j<ln a) (hb:0<b) (hla:ln a≤500) (hlb:ln b≤500) (hR:R<b*10000) {res:SV} {new:List (Option Vw)} (hX:av X Tryz.prog GL 198 [BR false a,BR false b] res new)
  (k:Ok X (bA (ln a) (dg a) (ln b) (dg b) ((j:Int)-1) (ln a) (fun k=>(((if k=j then R/b else F k):Nat):Int)) n8 g8 n9 g9 (ln (R%b)) (dg (R%b)))):
  ∀ (m lo hi:Nat),hi-lo≤m→lo<hi→hi≤10000→b*lo≤R→R<b*hi→
    Ok X (bh (ln a) (dg a) (ln b) (dg b) (j:Int) (lo:Int) (hi:Int) (ln a) (fun k=>((F k:Nat):Int)) n8 g8 n9 g9 (ln R) (dg R))
 |0,lo,hi,hm,h1,h2,h3,h4=>by omega
 |m+1,lo,hi,hm,h1,h2,h3,h4=>by
  have hlR:ln R≤ln b+1:=by
   rw[bc,Nat.pow_succ]
   have:=kB b
   omega
  have hsmall: ∀ x,x<10000→ln x≤1:=fun x hx=>bc.2 (by simpa using hx)
  by_cases h5:1<hi-lo
  ·have e:((lo:Int)+(hi:Int))/2=(((lo+hi)/2:Nat):Int):=by omega
   have hlm:=hsmall ((lo+hi)/2) (by omega)
   have hlp:=ia b ((lo+hi)/2)
   have c1:ab Tryz.prog GL 42 [I (((lo:Int)+(hi:Int))/2)] [] (.agg [.sl 0 (ln ((lo+hi)/2))]) [BR true ((lo+hi)/2)]:=by rw[e];exact pT (by omega)
   have c2:= @Prod _ b ((lo+hi)/2) (by omega) (by omega)
   have c3:= @HH _ (b*((lo+hi)/2)) R (by omega) (by omega)
   by_cases h6:b*((lo+hi)/2)≤R
   ·refine lP hX (by simp only[aj];omega) (by omega) (by simp only[aj];omega) (by omega) (by simp only[aj];omega) c1 c2 c3 (by unfold cX;split<;>(try split)<;>omega) ?_
    rw[e]
    exact xi hj hb hla hlb hR hX k m ((lo+hi)/2) hi (by omega) (by omega) h2 h6 h4
   ·refine lO hX (by simp only[aj];omega) (by omega) (by simp only[aj];omega) (by omega) (by simp only[aj];omega) c1 c2 c3 (by unfold cX;split<;>(try split)<;>omega) ?_
    rw[e]
    exact xi hj hb hla hlb hR hX k m lo ((lo+hi)/2) (by omega) (by omega) (by omega) h3 (by omega)
  ·have e1:hi=lo+1:=by omega
   have e2:R/b=lo:=by
    refine Nat.div_eq_of_lt_le ?_ ?_
    ·rw[Nat.mul_comm];exact h3
    ·rw[Nat.mul_comm,←e1];exact h4
   have e3:R-b*lo=R%b:=by
    have:=Nat.div_add_mod R b
    rw[e2]at this;omega
   have hlm:=hsmall lo (by omega)
   have hlp:=ia b lo
   have c1:ab Tryz.prog GL 42 [I (lo:Int)] [] (.agg [.sl 0 (ln lo)]) [BR true lo]:=pT (by omega)
   have c2:= @Prod _ b lo (by omega) (by omega)
   have c3:= @LY _ R (b*lo) (by omega) h3
   rw[e3]at c3
   refine lK (q5004:=fun k=>(((if k=j then R/b else F k):Nat):Int)) hX (by simp only[aj];omega) (by omega) (by omega) (fun k hk=> ?_) c1 c2 c3 (by simp only[aj];omega) k
   grind
theorem yU {X:Cx} {a b:Nat} (hb:0<b) (hla:ln a≤500) (hlb:ln b≤500) {n8 n9:Nat} {g8 g9:Nat→Int}
  (hX:av X Tryz.prog GL 198 [BR false a,BR false b] (.af [.agg [.sl 2 (ln (a/b))], .agg [.sl 3 (ln (a%b))]]) [BR true (a/b),BR true (a%b)]):
  ∀ (i:Nat) (F:Nat→Nat),i≤ln a→(∀ k,i≤k→k<ln a→F k=cC (a/b) k)→Ok X (bA (ln a) (dg a) (ln b) (dg b) ((i:Int)-1) (ln a) (fun k=>((F k:Nat):Int)) n8 g8 n9 g9 (ln (a/10000^i%b)) (dg (a/10000^i%b)))
 |0,F,hi,hF=>by
  rw[Nat.pow_zero,Nat.div_one]
  have h1:= @trim _ (ln a) F (fun k hk=>by rw[hF k (by omega) hk];exact iq _ _) (by omega)
  rw[mB (fun k hk=>hF k (by omega) hk),GF,fx (ed (Nat.div_le_self a b))]at h1
  exact lQ hX (by omega) h1
 |j+1,F,hi,hF=>by
  obtain⟨q1,q2,q3⟩:=Cy a b j hb
  have e:(((j+1:Nat):Int)-1)=(j:Int):=by omega
  rw[e]
  have hlr:ln (a/10000^(j+1)%b)≤ln b:=ed (Nat.le_of_lt (Nat.mod_lt _ hb))
  have h1:= @trim _ (1+ln (a/10000^(j+1)%b)) (fun k=>if k<1 then cC a j else cC (a/10000^(j+1)%b) (k-1)) (fun k hk=>by split;exact iq _ _;exact iq _ _) (by omega)
  rw[AO,GF,fx (Nat.le_refl _),show cC a j+10000*(a/10000^(j+1)%b)=a/10000^(j+1)%b*10000+cC a j by omega]at h1
  refine lR hX (by omega) (by omega) (fun k hk=> ?_) (by omega) h1 ?_
  ·rw[show(j:Int).toNat=j from rfl]
   split<;>rfl
  ·refine xi (by omega) hb hla hlb q3 hX ?_ 10000 0 10000 (by omega) (by omega) (by omega) (by omega) q3
   rw[q1,q2]
   refine yU hb hla hlb hX j _ (by omega) (fun k hk hk'=> ?_)
   grind
theorem Quot {a b:Nat} (hb:b≠0) (hla:ln a≤500) (hlb:ln b≤500):ab Tryz.prog GL 198 [.agg [.sl 0 (ln a)], .agg [.sl 1 (ln b)]] [BR false a,BR false b] (.af [.agg [.sl 2 (ln (a/b))], .agg [.sl 3 (ln (a%b))]]) [BR true (a/b),BR true (a%b)]:=by
 refine ab.of (by kernel_rfl) rfl ⟨fun i=>rfl,fun i=>rfl,trivial⟩ rfl (fun X hX=> ?_)
 refine lS hX (by omega) (by omega) (by omega) (by simp only[aj];omega) ?_
 have h:=yU (n8:=0) (n9:=0) (g8:=fun _=>default) (g9:=fun _=>default) (by omega) hla hlb hX (ln a) (fun _=>0) (Nat.le_refl _) (fun k h1 h2=>by omega)
 rw[Nat.div_eq_of_lt (kB a),Nat.zero_mod,fm,show dg 0=fun _=>default from funext fun i=>EB (by rw[fm];omega)]at h
 exact h
end Go.Proofs.YtelidogcomffkaaGreatDoor
