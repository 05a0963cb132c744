import Derived.Test.YtelidogcomffkaaGreatDoorBit
import Derived.Test.YtelidogcomffkaaGreatDoorProg
import Derived.KernelRfl
import Derived.Laws.Externs
set_option linter.unusedSectionVars false
set_option linter.unusedSimpArgs false
set_option linter.unusedVariables false
set_option maxRecDepth 100000
namespace Go.Proofs.YtelidogcomffkaaGreatDoor
def dgN (v i:Nat):Nat:=v/10000^i%10000
def dg (v i:Nat):Int:=(dgN v i:Nat)
def ln (v:Nat):Nat:=if h:v=0 then 0 else ln (v/10000)+1
 termination_by v
 decreasing_by omega
theorem ln_zero:ln 0=0:=by rw[ln];simp
theorem ln_pos {v:Nat} (h:v≠0):ln v=ln (v/10000)+1:=by rw[ln];simp[h]
theorem B_pos (i:Nat):0<10000^i:=Nat.pos_of_ne_zero (by simp)
theorem lt_ln (v:Nat):v<10000^ln v:=by
 induction v using ln.induct with
 |case1=>simp[ln_zero]
 |case2 v h ih=>
  rw[ln_pos h,Nat.pow_succ]
  have:=Nat.div_add_mod v 10000
  have:=Nat.mod_lt v (show 0<10000 by decide)
  omega
theorem ln_le {v:Nat} (h:v≠0):10000^(ln v-1)≤v:=by
 induction v using ln.induct with
 |case1=>exact absurd rfl h
 |case2 v h' ih=>
  rw[ln_pos h']
  simp only[Nat.add_sub_cancel]
  by_cases h0:v/10000=0
  ·rw[h0,ln_zero];simp;omega
  ·have h1:=ih h0
   have h2:ln (v/10000)=(ln (v/10000)-1)+1:=by rw[ln_pos h0];simp
   rw[h2,Nat.pow_succ]
   omega
theorem pow_lt_iff {a b:Nat}:10000^a<10000^b↔a<b:=Nat.pow_lt_pow_iff_right (by decide)
theorem pow_le_iff {a b:Nat}:10000^a≤10000^b↔a≤b:=Nat.pow_le_pow_iff_right (by decide)
theorem ln_eq {v n:Nat} (h1:v<10000^n) (h2:n=0∨10000^(n-1)≤v):n=ln v:=by
 rcases h2 with rfl|h2
 ·simp at h1;subst h1;rw[ln_zero]
 ·have h3:=lt_ln v
  have h0:v≠0:=by have:=B_pos (n-1);omega
  have h4:=ln_le h0
  have h5:=pow_lt_iff.1 (Nat.lt_of_le_of_lt h2 h3)
  have h6:=pow_lt_iff.1 (Nat.lt_of_le_of_lt h4 h1)
  have h7:ln v≠0:=by rw[ln_pos h0];simp
  omega
theorem ln_le_iff {v n:Nat}:ln v≤n↔v<10000^n:=by
 constructor
 ·exact fun h=>Nat.lt_of_lt_of_le (lt_ln v) (pow_le_iff.2 h)
 ·intro h
  by_cases h0:v=0
  ·subst h0;rw[ln_zero];exact Nat.zero_le _
  ·have:=pow_lt_iff.1 (Nat.lt_of_le_of_lt (ln_le h0) h)
   omega
theorem lt_ln_iff {v n:Nat}:n<ln v↔10000^n≤v:=by
 have:= @ln_le_iff v n;omega
theorem ln_mul (v w:Nat):ln (v*w)≤ln v+ln w:=by
 rw[ln_le_iff,Nat.pow_add]
 exact Nat.mul_lt_mul_of_lt_of_le (lt_ln v) (Nat.le_of_lt (lt_ln w)) (B_pos _)
theorem dgN_lt (v i:Nat):dgN v i<10000:=Nat.mod_lt _ (by decide)
theorem dg_nn (v i:Nat):0≤dg v i:=by unfold dg;omega
theorem dgN_out {v i:Nat} (h:ln v≤i):dgN v i=0:=by
 unfold dgN;rw[Nat.div_eq_of_lt (ln_le_iff.1 h)]
theorem dg_out {v i:Nat} (h:ln v≤i):dg v i=0:=by unfold dg;rw[dgN_out h];rfl
theorem mod_succ (v i:Nat):v%10000^(i+1)=v%10000^i+dgN v i*10000^i:=by
 rw[Nat.pow_succ,Nat.mod_mul];unfold dgN;rw[Nat.mul_comm (10000^i)]
theorem div_step (v i:Nat):v/10000^i/10000=v/10000^(i+1):=by
 rw[Nat.pow_succ,Nat.div_div_eq_div_mul]
def vl (f:Nat→Nat):Nat→Nat
 |0=>0
 |n+1=>vl f n+f n*10000^n
theorem vl_succ (f:Nat→Nat) (n:Nat):vl f (n+1)=vl f n+f n*10000^n:=rfl
theorem vl_congr {f g:Nat→Nat}: ∀ {n:Nat},(∀ i,i<n→f i=g i)→vl f n=vl g n
 |0,_=>rfl
 |n+1,h=>by
  unfold vl
  rw[vl_congr (n:=n) (fun i hi=>h i (by omega)),h n (by omega)]
theorem vl_lt {f:Nat→Nat}: ∀ {n:Nat},(∀ i,i<n→f i<10000)→vl f n<10000^n
 |0,_=>by simp[vl]
 |n+1,h=>by
  have h1:=vl_lt (n:=n) (fun i hi=>h i (by omega))
  have h2:=h n (by omega)
  unfold vl
  rw[Nat.pow_succ]
  have:f n*10000^n≤9999*10000^n:=Nat.mul_le_mul_right _ (by omega)
  omega
theorem vl_digit {f:Nat→Nat}: ∀ {n:Nat},(∀ i,i<n→f i<10000)→ ∀ i,i<n→f i=dgN (vl f n) i
 |0,_,i,hi=>by omega
 |n+1,h,i,hi=>by
  have h1:=vl_lt (f:=f) (n:=n) (fun i hi=>h i (by omega))
  unfold vl dgN
  by_cases h2:i=n
  ·subst h2
   rw[Nat.add_mul_div_right _ _ (B_pos i),Nat.div_eq_of_lt h1,Nat.zero_add,Nat.mod_eq_of_lt (h i hi)]
  ·have h3:=vl_digit (f:=f) (n:=n) (fun i hi=>h i (by omega)) i (by omega)
   rw[h3]
   unfold dgN
   have h4:10000^n=10000^i*(10000*10000^(n-i-1)):=by
    rw[←Nat.mul_assoc,←Nat.pow_succ,←Nat.pow_add];congr 1;omega
   rw[h4,show f n*(10000^i*(10000*10000^(n-i-1)))=10000^i*(10000*(f n*10000^(n-i-1)))by
    rw[←Nat.mul_assoc (f n),Nat.mul_comm (f n),Nat.mul_assoc,←Nat.mul_assoc (f n),Nat.mul_comm (f n) 10000,Nat.mul_assoc]]
   rw[Nat.add_mul_div_left _ _ (B_pos i),Nat.add_mul_mod_self_left]
theorem vl_set {f:Nat→Nat} {k x:Nat}: ∀ {n:Nat},k<n→vl (fun i=>if i=k then x else f i) n+f k*10000^k=vl f n+x*10000^k
 |0,h=>by omega
 |n+1,h=>by
  unfold vl
  by_cases h2:k=n
  ·subst h2
   rw[vl_congr (n:=k) (g:=f) (fun i hi=>by rw[if_neg (by omega)]),if_pos rfl]
   omega
  ·have:=vl_set (f:=f) (k:=k) (x:=x) (n:=n) (by omega)
   rw[if_neg (by omega)]
   omega
theorem vl_zero {f:Nat→Nat}: ∀ {n:Nat},(∀ i,i<n→f i=0)→vl f n=0
 |0,_=>rfl
 |n+1,h=>by
  unfold vl;rw[vl_zero (n:=n) (fun i hi=>h i (by omega)),h n (by omega)];simp
theorem mod_full {v i:Nat} (h:ln v≤i):v%10000^i=v:=Nat.mod_eq_of_lt (ln_le_iff.1 h)
end Go.Proofs.YtelidogcomffkaaGreatDoor
namespace Go.Proofs.YtelidogcomffkaaGreatDoor
open Go Go.Sx
variable [Env]
abbrev BR (o:Bool) (v:Nat):Option Vw:=some (.row o 3 (ln v) 1 (fun i=>[I (dg v i)]))
theorem same1 {o:Bool} {t:TypeId} {n:Nat} {f g:Nat→Int} (h: ∀ i,i<n→f i=g i):sameHp [some (.row o t n 1 (fun i=>[I (f i)]))] [some (.row o t n 1 (fun i=>[I (g i)]))]:=
 ⟨⟨rfl,rfl,rfl,rfl,fun i hi=>by simp only[h i hi]⟩,trivial⟩
theorem IsFin.same1 {X:Cx} {P:Program} {gl:List (Nat×Vw)} {fn:FuncId} {hp0:List (Option Vw)} {res:SV} {t:TypeId} {o:Bool} {n:Nat} {f g:Nat→Int} (hX:IsFin X P gl fn hp0 res [some (.row o t n 1 (fun i=>[I (g i)]))]) (h: ∀ i,i<n→f i=g i):
  IsFin X P gl fn hp0 res [some (.row o t n 1 (fun i=>[I (f i)]))]:=IsFin.same hX (Go.Proofs.YtelidogcomffkaaGreatDoor.same1 h)
theorem IsFin.dig {X:Cx} {P:Program} {gl:List (Nat×Vw)} {fn:FuncId} {hp0:List (Option Vw)} {r:Nat→SV} {n v:Nat} {F:Nat→Nat} (hX:IsFin X P gl fn hp0 (r (ln v)) [BR true v]) (hF: ∀ i,i<n→F i<10000) (hv:vl F n=v) (hn:n=ln v):
  IsFin X P gl fn hp0 (r n) [some (.row true 3 n 1 (fun i=>[I ((F i:Nat):Int)]))]:=by
 subst hn
 refine IsFin.same1 hX (fun i hi=> ?_)
 have:=vl_digit hF i hi
 rw[hv]at this
 unfold dg;rw[this]
noncomputable def demurrageref01_FromU_h0 (x1:Int) (n1_:Nat) (g1011:Nat→Int) (n2_:Nat) (g1021:Nat→Int):SC:=
 ⟨[⟨66,slo 16 [(0,N .u64 x1),(2, .ptr 0 0),(3, .sl 1 n1_)],[.code (bodyAt Tryz.f66 [1,1,0,0,0]), .inLoop (bodyAt Tryz.f66 [1,1,0,0,0]), .inBlock 0, .code (bodyAt Tryz.f66 [1,1,1])],{}⟩],[some (.box true [.sl 2 n2_]),ro n1_ g1011,ro n2_ g1021]⟩
theorem demurrageref01_FromU_0 {X:Cx} {res:SV} {new:List (Option Vw)} {a1:Int} (hX:Fi X 66 [] res new) (k:Ok X (demurrageref01_FromU_h0 a1 0 (fun _=>default) 0 (fun _=>default))):
  Ok X (entry Tryz.prog 66 [N .u64 a1] []):=
 Ok.cutM 11 [] [msk 16 [0,2,3]] [.old 0, .nil 1, .nil 1] 0 hX.P hX.gl hX.n0 (by kernel_rfl) (by kernel_rfl) (by exact⟨rfl,fun _=>rfl,fun _=>rfl,trivial⟩) na k
theorem demurrageref01_FromU_1 {X:Cx} {res:SV} {new:List (Option Vw)} {x1:Int} {n1_:Nat} {g1011:Nat→Int} {n2_:Nat} {g1021 q5002:Nat→Int} (hX:Fi X 66 [] res new) (h0:x1>0) (h1:(0:Int)≤x1) (h2:InR .i64 (x1%10000)) (h3: ∀ k,k<(n1_+1)→q5002 k=if k<n1_ then(g1011 k)else(x1%10000)) (h4:(n1_+1)*8≤140737488355328) (h5:InR .u64 (x1/10000)) (k:Ok X (demurrageref01_FromU_h0 (x1/10000) (n1_+1) q5002 n2_ g1021)):
  Ok X (demurrageref01_FromU_h0 x1 n1_ g1011 n2_ g1021):=
 Ok.cutM 26 [tb, .row (fun i=>[I (x1%10000)]), .row (fun i=>[I (q5002 i)])] [msk 16 [0,2,3]] [.old 0, .old 4, .old 2] 0 hX.P hX.gl hX.n0 (by kernel_rfl) (by kernel_rfl) (by exact⟨rfl,fun _=>rfl,fun _=>rfl,trivial⟩) (ca (dt h0) (ca h1 (ca (show(0:Int)<10000 from by decide) (ca h2 (ca (show ∀ k,k<1→(fun i=>[I (x1%10000)]) k=[[I (x1%10000)]].getD k []from by intro k hk;match k,hk with|0,_=>rfl|k+1,hk=>omega) (ca (re 1) (ca (re n1_) (ca h4 (ca (show ∀ k,k<n1_+1→(fun i=>[I (q5002 i)]) k=if k<n1_ then(fun i=>[I (g1011 i)]) k else(fun i=>[I (x1%10000)]) (k-n1_)from fun k hk=>by
   have e0:=h3 k hk
   by_cases c:k<n1_
   ·rw[if_pos c]at e0⊢;simp only[e0]
   ·rw[if_neg c]at e0⊢;simp only[e0]) (ca h1 (ca (show(0:Int)<10000 from by decide) (ca h5 na)))))))))))) k
theorem demurrageref01_FromU_2 {X:Cx} {x1:Int} {n1_:Nat} {g1011:Nat→Int} {n2_:Nat} {g1021:Nat→Int} (hX:Fi X 66 [] (.agg [.sl 0 n1_]) [ro n1_ g1011]) (h0: ¬x1>0):
  Ok X (demurrageref01_FromU_h0 x1 n1_ g1011 n2_ g1021):=
 Ok.fin 14 [fb] [1] 3 hX (by kernel_rfl) rfl (ca (df h0) na)
theorem FromU_loop {X:Cx} {v:Nat} (hv:v<18446744073709551616) (hX:IsFin X Tryz.prog GL 66 [] (.agg [.sl 0 (ln v)]) [BR true v]):
  ∀ (m n:Nat) (g:Nat→Int) (n2:Nat) (g2:Nat→Int),ln v-n=m→n≤ln v→(∀ k,k<n→g k=dg v k)→Ok X (demurrageref01_FromU_h0 ((v/10000^n:Nat):Int) n g n2 g2)
 |0,n,g,n2,g2,hm,hn,hg=>by
  have e:n=ln v:=by omega
  subst e
  have h0:v/10000^ln v=0:=Nat.div_eq_of_lt (lt_ln v)
  exact demurrageref01_FromU_2 (IsFin.same1 hX hg) (by rw[h0];decide)
 |m+1,n,g,n2,g2,hm,hn,hg=>by
  have h1:0<v/10000^n:=Nat.div_pos (lt_ln_iff.1 (by omega)) (B_pos n)
  have h2:v/10000^n≤v:=Nat.div_le_self _ _
  have h3:ln v≤5:=ln_le_iff.2 (by omega)
  refine demurrageref01_FromU_1 (q5002:=fun k=>if k<n then g k else((v/10000^n:Nat):Int)%10000) hX (by omega) (by omega) (by simp only[InR];omega) (fun k hk=>rfl) (by omega) (by simp only[InR];omega) ?_
  rw[show(((v/10000^n:Nat):Int)/10000)=((v/10000^(n+1):Nat):Int)by rw[←div_step];rfl]
  refine FromU_loop hv hX m (n+1) _ n2 g2 (by omega) (by omega) (fun k hk=> ?_)
  show(if k<n then g k else((v/10000^n:Nat):Int)%10000)=dg v k
  split
  ·exact hg k (by assumption)
  ·have:k=n:=by omega
   subst this;unfold dg dgN;omega
theorem FromU {v:Nat} (hv:v<18446744073709551616):SCall Tryz.prog GL 66 [N .u64 (v:Int)] [] (.agg [.sl 0 (ln v)]) [BR true v]:=by
 refine SCall.of (by kernel_rfl) rfl trivial rfl (fun X hX=> ?_)
 refine demurrageref01_FromU_0 hX ?_
 have:=FromU_loop hv hX (ln v) 0 (fun _=>default) 0 (fun _=>default) (by omega) (by omega) (fun k hk=>by omega)
 rwa [Nat.pow_zero,Nat.div_one]at this
theorem demurrageref01_From_0 {a1:Int} {n2:Nat} {g3:Nat→Int} (h0:InR .u64 a1) (h1:S 66 [N .u64 a1] [] (.agg [.sl 0 n2]) [ro n2 g3]):
  S 42 [I a1] [] (.agg [.sl 0 n2]) [ro n2 g3]:=
 SCall.path 11 [.call [] (.agg [.sl 0 n2]) [ro n2 g3]] [1] 2 (by kernel_rfl) rfl (by exact trivial) (ca h0 (ca h1 na))
theorem From {v:Nat} (hv:v<9223372036854775808):SCall Tryz.prog GL 42 [I (v:Int)] [] (.agg [.sl 0 (ln v)]) [BR true v]:=
 demurrageref01_From_0 (by simp only[InR];omega) (FromU (by omega))
theorem demurrageref01_part_0 {n1:Nat} {g2:Nat→Int} {a3:Int} (h0:a3<((n1:Nat):Int)) (h1:(0:Int)≤a3∧a3<((n1:Nat):Int)):
  S 64 [.agg [.sl 0 n1],I a3] [ri n1 g2] (I (g2 a3.toNat)) []:=
 SCall.path 24 [tb] [] 2 (by kernel_rfl) rfl (by exact⟨fun _=>rfl,trivial⟩) (ca (dt h0) (ca h1 (ca (re n1) (ca h1 na))))
theorem demurrageref01_part_1 {n1:Nat} {g2:Nat→Int} {a3:Int} (h0: ¬a3<((n1:Nat):Int)):
  S 64 [.agg [.sl 0 n1],I a3] [ri n1 g2] (I 0) []:=
 SCall.path 20 [fb] [] 2 (by kernel_rfl) rfl (by exact⟨fun _=>rfl,trivial⟩) (ca (df h0) na)
theorem part {v i:Nat}:SCall Tryz.prog GL 64 [.agg [.sl 0 (ln v)],I (i:Int)] [BR false v] (I (dg v i)) []:=by
 by_cases h:i<ln v
 ·have:= @demurrageref01_part_0 _ (ln v) (dg v) (i:Int) (by omega) (by omega)
  simpa using this
 ·rw[dg_out (by omega)]
  exact demurrageref01_part_1 (by omega)
noncomputable def demurrageref01_trim_h0 (n1:Nat) (g2:Nat→Int) (x1:Int) (n2_:Nat) (g1021:Nat→Int):SC:=
 ⟨[⟨65,slo 24 [(0, .sl 0 n1),(2, .ptr 1 0),(3,I x1)],[.code (bodyAt Tryz.f65 [1,1,0,0,0]), .inLoop (bodyAt Tryz.f65 [1,1,0,0,0]), .inBlock 0, .code (bodyAt Tryz.f65 [1,1,1])],{}⟩],[ri n1 g2,some (.box true [.sl 2 n2_]),ro n2_ g1021]⟩
theorem demurrageref01_trim_0 {X:Cx} {res:SV} {new:List (Option Vw)} {n1:Nat} {g2:Nat→Int} (hX:Fi X 65 [ri n1 g2] res new) (k:Ok X (demurrageref01_trim_h0 n1 g2 ((n1:Nat):Int) 0 (fun _=>default))):
  Ok X (entry Tryz.prog 65 [.sl 0 n1] [ri n1 g2]):=
 Ok.cutM 13 [] [msk 24 [0,2,3]] [.old 0, .old 1, .nil 1] 1 hX.P hX.gl hX.n0 (by kernel_rfl) (by kernel_rfl) (by exact⟨fun _=>rfl,rfl,fun _=>rfl,trivial⟩) na k
theorem demurrageref01_trim_1 {X:Cx} {res:SV} {new:List (Option Vw)} {n1:Nat} {g2:Nat→Int} {x1:Int} {n2_:Nat} {g1021:Nat→Int} (hX:Fi X 65 [ri n1 g2] res new) (h0:x1>0) (h1:InR .i64 (x1-1)) (h2:(0:Int)≤(x1-1)∧(x1-1)<((n1:Nat):Int)) (h3:(g2 ((x1-1).toNat))=0) (k:Ok X (demurrageref01_trim_h0 n1 g2 (x1-1) n2_ g1021)):
  Ok X (demurrageref01_trim_h0 n1 g2 x1 n2_ g1021):=
 Ok.cutM 24 [tb,tb,tb,tb,tb,tb,tb,tb] [msk 24 [0,2,3]] [.old 0, .old 1, .old 2] 1 hX.P hX.gl hX.n0 (by kernel_rfl) (by kernel_rfl) (by exact⟨fun _=>rfl,rfl,fun _=>rfl,trivial⟩) (ca (dt h0) (ca (dt h0) (ca (dt h0) (ca h1 (ca (dt h0) (ca h2 (ca (re n1) (ca (dt h0) (ca h2 (ca (dt h0) (ca (dt h0) (ca (beq_iff_eq.2 h3) (ca h1 na))))))))))))) k
theorem demurrageref01_trim_2 {X:Cx} {n1:Nat} {g2:Nat→Int} {x1:Int} {n2_:Nat} {g1021 q5002:Nat→Int} (hX:Fi X 65 [ri n1 g2] (.agg [.sl 1 (0+(x1.toNat-0))]) [some (.row true 3 (0+(x1.toNat-0)) 1 (fun i=>[I (q5002 i)]))]) (h0:x1>0) (h1:InR .i64 (x1-1)) (h2:(0:Int)≤(x1-1)∧(x1-1)<((n1:Nat):Int)) (h3:(g2 ((x1-1).toNat))≠0) (h4:(0:Int)≤x1∧x1≤((n1:Nat):Int)) (h5:(0:Int)≤0∧(0:Int)≤x1) (h6: ∀ k,k<(0+(x1.toNat-0))→q5002 k=if k<0 then 0 else(g2 ((k-0)+0))) (h7:(0+(x1.toNat-0))*8≤140737488355328):
  Ok X (demurrageref01_trim_h0 n1 g2 x1 n2_ g1021):=
 Ok.fin 26 [tb,tb,tb,tb,tb,tb,tb,fb, .row (fun i=>[I 0]), .row (fun i=>[I (q5002 i)])] [5] 6 hX (by kernel_rfl) rfl (ca (dt h0) (ca (dt h0) (ca (dt h0) (ca h1 (ca (dt h0) (ca h2 (ca (re n1) (ca (dt h0) (ca h2 (ca (dt h0) (ca (dt h0) (ca (beq_eq_false_iff_ne.2 h3) (ca (show ∀ k,k<0→(fun i=>[I 0]) k=[].getD k []from by intro k hk;omega) (ca (re n1) (ca h4 (ca h5 (ca (show(x1.toNat-0)=(x1.toNat-0)from rfl) (ca (re 0) (ca h7 (ca (show ∀ k,k<0+(x1.toNat-0)→(fun i=>[I (q5002 i)]) k=if k<0 then(fun i=>[I 0]) k else(fun i=>[I (g2 (i+0))]) (k-0)from fun k hk=>by
   have e0:=h6 k hk
   by_cases c:k<0
   ·rw[if_pos c]at e0⊢;simp only[e0]
   ·rw[if_neg c]at e0⊢;simp only[e0]) na))))))))))))))))))))
theorem demurrageref01_trim_3 {X:Cx} {n1:Nat} {g2:Nat→Int} {x1:Int} {n2_:Nat} {g1021 q5002:Nat→Int} (hX:Fi X 65 [ri n1 g2] (.agg [.sl 1 (0+(x1.toNat-0))]) [some (.row true 3 (0+(x1.toNat-0)) 1 (fun i=>[I (q5002 i)]))]) (h0: ¬x1>0) (h1:(0:Int)≤x1∧x1≤((n1:Nat):Int)) (h2:(0:Int)≤0∧(0:Int)≤x1) (h3: ∀ k,k<(0+(x1.toNat-0))→q5002 k=if k<0 then 0 else(g2 ((k-0)+0))) (h4:(0+(x1.toNat-0))*8≤140737488355328):
  Ok X (demurrageref01_trim_h0 n1 g2 x1 n2_ g1021):=
 Ok.fin 26 [fb,fb,fb,fb,fb,fb,fb,fb, .row (fun i=>[I 0]), .row (fun i=>[I (q5002 i)])] [5] 6 hX (by kernel_rfl) rfl (ca (df h0) (ca (df h0) (ca (df h0) (ca (df h0) (ca (df h0) (ca (df h0) (ca (df h0) (ca rf (ca (show ∀ k,k<0→(fun i=>[I 0]) k=[].getD k []from by intro k hk;omega) (ca (re n1) (ca h1 (ca h2 (ca (show(x1.toNat-0)=(x1.toNat-0)from rfl) (ca (re 0) (ca h4 (ca (show ∀ k,k<0+(x1.toNat-0)→(fun i=>[I (q5002 i)]) k=if k<0 then(fun i=>[I 0]) k else(fun i=>[I (g2 (i+0))]) (k-0)from fun k hk=>by
   have e0:=h3 k hk
   by_cases c:k<0
   ·rw[if_pos c]at e0⊢;simp only[e0]
   ·rw[if_neg c]at e0⊢;simp only[e0]) na))))))))))))))))
theorem trim_loop {X:Cx} {n:Nat} {F:Nat→Nat} (hF: ∀ i,i<n→F i<10000) (hn:n≤10000)
  (hX:IsFin X Tryz.prog GL 65 [some (.row false 3 n 1 (fun i=>[I ((F i:Nat):Int)]))] (.agg [.sl 1 (ln (vl F n))]) [BR true (vl F n)]):
  ∀ (m n2:Nat) (g2:Nat→Int),m≤n→vl F m=vl F n→Ok X (demurrageref01_trim_h0 n (fun i=>((F i:Nat):Int)) (m:Int) n2 g2)
 |0,n2,g2,hm,hv=>by
  have h0:vl F n=0:=by rw[←hv];rfl
  have h1:=IsFin.dig (r:=fun n=> .agg [.sl 1 n]) (n:=0+((((0:Nat):Int)).toNat-0)) (F:=F) (v:=vl F n) hX (fun i hi=>by omega) (by rw[h0];rfl) (by rw[h0,ln_zero];rfl)
  exact demurrageref01_trim_3 h1 (by omega) (by omega) (by omega) (fun k hk=>by simp) (by omega)
 |m+1,n2,g2,hm,hv=>by
  have e:(((m+1:Nat):Int)-1).toNat=m:=by omega
  by_cases h:F m=0
  ·refine demurrageref01_trim_1 hX (by omega) (by simp only[InR];omega) (by omega) (by rw[e,h];rfl) ?_
   rw[show(((m+1:Nat):Int)-1)=(m:Int)by omega]
   refine trim_loop hF hn hX m n2 g2 (by omega) ?_
   rw[←hv];rw[vl_succ,h];simp
  ·have h2:m+1=ln (vl F n):=by
    refine ln_eq ?_ (.inr ?_)
    ·rw[←hv];exact vl_lt (fun i hi=>hF i (by omega))
    ·rw[←hv];show 10000^m≤vl F m+F m*10000^m
     have:1*10000^m≤F m*10000^m:=Nat.mul_le_mul_right _ (by omega)
     omega
   have e2:0+((((m+1:Nat):Int)).toNat-0)=m+1:=by omega
   have h1:=IsFin.dig (r:=fun n=> .agg [.sl 1 n]) (n:=0+((((m+1:Nat):Int)).toNat-0)) (F:=F) (v:=vl F n) hX (fun i hi=>hF i (by omega)) (by rw[e2];exact hv) (by rw[e2];exact h2)
   exact demurrageref01_trim_2 h1 (by omega) (by simp only[InR];omega) (by omega) (by rw[e];omega) (by omega) (by omega) (fun k hk=>by simp) (by omega)
theorem trim {n:Nat} {F:Nat→Nat} (hF: ∀ i,i<n→F i<10000) (hn:n≤10000):
  SCall Tryz.prog GL 65 [.sl 0 n] [some (.row false 3 n 1 (fun i=>[I ((F i:Nat):Int)]))] (.agg [.sl 1 (ln (vl F n))]) [BR true (vl F n)]:=by
 refine SCall.of (by kernel_rfl) rfl ⟨fun i=>rfl,trivial⟩ rfl (fun X hX=> ?_)
 exact demurrageref01_trim_0 hX (trim_loop hF hn hX n 0 (fun _=>default) (Nat.le_refl _) rfl)
noncomputable def demurrageref01_Cmp_h0 (n1:Nat) (g2:Nat→Int) (n3:Nat) (g4:Nat→Int) (x1:Int):SC:=
 ⟨[⟨43,slo 38 [(2, .ptr 2 0),(3, .ptr 3 0),(6,I x1)],[.code (bodyAt Tryz.f43 [1,1,1,0,1,0,0]), .inLoop (bodyAt Tryz.f43 [1,1,1,0,1,0,0]), .inBlock 0, .code (bodyAt Tryz.f43 [1,1,1,1])],{}⟩],[ri n1 g2,ri n3 g4,some (.box true [.sl 0 n1]),some (.box true [.sl 1 n3])]⟩
theorem demurrageref01_Cmp_0 {X:Cx} {res:SV} {new:List (Option Vw)} {n1:Nat} {g2:Nat→Int} {n3:Nat} {g4:Nat→Int} (hX:Fi X 43 [ri n1 g2,ri n3 g4] res new) (h0:((n3:Nat):Int)>((n1:Nat):Int)) (h1:InR .i64 (((n3:Nat):Int)-1)) (k:Ok X (demurrageref01_Cmp_h0 n1 g2 n3 g4 (((n3:Nat):Int)-1))):
  Ok X (entry Tryz.prog 43 [.agg [.sl 0 n1], .agg [.sl 1 n3]] [ri n1 g2,ri n3 g4]):=
 Ok.cutM 38 [tb] [msk 38 [2,3,6]] [.old 0, .old 1, .old 2, .old 3] 2 hX.P hX.gl hX.n0 (by kernel_rfl) (by kernel_rfl) (by exact⟨fun _=>rfl,fun _=>rfl,rfl,rfl,trivial⟩) (ca (dt h0) (ca h1 na)) k
theorem demurrageref01_Cmp_1 {X:Cx} {res:SV} {new:List (Option Vw)} {n1:Nat} {g2:Nat→Int} {n3:Nat} {g4:Nat→Int} (hX:Fi X 43 [ri n1 g2,ri n3 g4] res new) (h0: ¬((n3:Nat):Int)>((n1:Nat):Int)) (h1:InR .i64 (((n1:Nat):Int)-1)) (k:Ok X (demurrageref01_Cmp_h0 n1 g2 n3 g4 (((n1:Nat):Int)-1))):
  Ok X (entry Tryz.prog 43 [.agg [.sl 0 n1], .agg [.sl 1 n3]] [ri n1 g2,ri n3 g4]):=
 Ok.cutM 33 [fb] [msk 38 [2,3,6]] [.old 0, .old 1, .old 2, .old 3] 2 hX.P hX.gl hX.n0 (by kernel_rfl) (by kernel_rfl) (by exact⟨fun _=>rfl,fun _=>rfl,rfl,rfl,trivial⟩) (ca (df h0) (ca h1 na)) k
theorem demurrageref01_Cmp_2 {X:Cx} {n1:Nat} {g2:Nat→Int} {n3:Nat} {g4:Nat→Int} {x1 r5002 r5003:Int} (hX:Fi X 43 [ri n1 g2,ri n3 g4] (I (-1)) []) (h0:x1≥0) (h1:S 64 [.agg [.sl 0 n1],I x1] [ri n1 g2] (I r5002) []) (h2:S 64 [.agg [.sl 0 n3],I x1] [ri n3 g4] (I r5003) []) (h3:r5002<r5003):
  Ok X (demurrageref01_Cmp_h0 n1 g2 n3 g4 x1):=
 Ok.fin 36 [tb, .call [0] (I r5002) [], .call [1] (I r5003) [],tb] [] 4 hX (by kernel_rfl) rfl (ca (dt h0) (ca h1 (ca h2 (ca (dt h3) na))))
theorem demurrageref01_Cmp_3 {X:Cx} {n1:Nat} {g2:Nat→Int} {n3:Nat} {g4:Nat→Int} {x1 r5002 r5003:Int} (hX:Fi X 43 [ri n1 g2,ri n3 g4] (I 1) []) (h0:x1≥0) (h1:S 64 [.agg [.sl 0 n1],I x1] [ri n1 g2] (I r5002) []) (h2:S 64 [.agg [.sl 0 n3],I x1] [ri n3 g4] (I r5003) []) (h3: ¬r5002<r5003) (h4:r5002>r5003):
  Ok X (demurrageref01_Cmp_h0 n1 g2 n3 g4 x1):=
 Ok.fin 44 [tb, .call [0] (I r5002) [], .call [1] (I r5003) [],fb,tb] [] 4 hX (by kernel_rfl) rfl (ca (dt h0) (ca h1 (ca h2 (ca (df h3) (ca (dt h4) na)))))
theorem demurrageref01_Cmp_4 {X:Cx} {res:SV} {new:List (Option Vw)} {n1:Nat} {g2:Nat→Int} {n3:Nat} {g4:Nat→Int} {x1 r5002 r5003:Int} (hX:Fi X 43 [ri n1 g2,ri n3 g4] res new) (h0:x1≥0) (h1:S 64 [.agg [.sl 0 n1],I x1] [ri n1 g2] (I r5002) []) (h2:S 64 [.agg [.sl 0 n3],I x1] [ri n3 g4] (I r5003) []) (h3: ¬r5002<r5003) (h4: ¬r5002>r5003) (h5:InR .i64 (x1-1)) (k:Ok X (demurrageref01_Cmp_h0 n1 g2 n3 g4 (x1-1))):
  Ok X (demurrageref01_Cmp_h0 n1 g2 n3 g4 x1):=
 Ok.cutM 48 [tb, .call [0] (I r5002) [], .call [1] (I r5003) [],fb,fb] [msk 38 [2,3,6]] [.old 0, .old 1, .old 2, .old 3] 2 hX.P hX.gl hX.n0 (by kernel_rfl) (by kernel_rfl) (by exact⟨fun _=>rfl,fun _=>rfl,rfl,rfl,trivial⟩) (ca (dt h0) (ca h1 (ca h2 (ca (df h3) (ca (df h4) (ca h5 na)))))) k
theorem demurrageref01_Cmp_5 {X:Cx} {n1:Nat} {g2:Nat→Int} {n3:Nat} {g4:Nat→Int} {x1:Int} (hX:Fi X 43 [ri n1 g2,ri n3 g4] (I 0) []) (h0: ¬x1≥0):
  Ok X (demurrageref01_Cmp_h0 n1 g2 n3 g4 x1):=
 Ok.fin 12 [fb] [] 4 hX (by kernel_rfl) rfl (ca (df h0) na)
theorem Cmp_loop {X:Cx} {a b:Nat} (ha:ln a≤10000) (hb:ln b≤10000) (hX:IsFin X Tryz.prog GL 43 [BR false a,BR false b] (I (cmpI a b)) []):
  ∀ (i:Nat),i≤20000→a/10000^i=b/10000^i→Ok X (demurrageref01_Cmp_h0 (ln a) (dg a) (ln b) (dg b) ((i:Int)-1))
 |0,_,h=>by
  simp at h
  subst h
  refine demurrageref01_Cmp_5 ?_ (by omega)
  have e:cmpI (a:Int) a=0:=by unfold cmpI;simp
  rwa [e]at hX
 |j+1,hi,h=>by
  have e:(((j+1:Nat):Int)-1)=(j:Int):=by omega
  have h1:=Nat.div_add_mod (a/10000^j) 10000
  have h2:=Nat.div_add_mod (b/10000^j) 10000
  rw[div_step]at h1 h2
  rw[h]at h1
  rw[e]
  rcases Nat.lt_trichotomy (dgN a j) (dgN b j)with h3|h3|h3
  ·refine demurrageref01_Cmp_2 ?_ (by omega) part part (by unfold dg;omega)
   have h4:a<b:=by
    unfold dgN at h3
    have:a/10000^j<b/10000^j:=by omega
    exact Nat.lt_of_not_le (fun h=>absurd (Nat.div_le_div_right (c:=10000^j) h) (by omega))
   have e:cmpI (a:Int) b= -1:=by unfold cmpI;rw[if_pos (by omega)]
   rwa [e]at hX
  ·refine demurrageref01_Cmp_4 hX (by omega) part part (by unfold dg;omega) (by unfold dg;omega) (by simp only[InR];omega) ?_
   refine Cmp_loop ha hb hX j (by omega) ?_
   unfold dgN at h3;omega
  ·refine demurrageref01_Cmp_3 ?_ (by omega) part part (by unfold dg;omega) (by unfold dg;omega)
   have h4:b<a:=by
    unfold dgN at h3
    have:b/10000^j<a/10000^j:=by omega
    exact Nat.lt_of_not_le (fun h=>absurd (Nat.div_le_div_right (c:=10000^j) h) (by omega))
   have e:cmpI (a:Int) b=1:=by unfold cmpI;rw[if_neg (by omega),if_pos (by omega)]
   rwa [e]at hX
theorem Cmp {a b:Nat} (ha:ln a≤10000) (hb:ln b≤10000):SCall Tryz.prog GL 43 [.agg [.sl 0 (ln a)], .agg [.sl 1 (ln b)]] [BR false a,BR false b] (I (cmpI a b)) []:=by
 refine SCall.of (by kernel_rfl) rfl ⟨fun i=>rfl,fun i=>rfl,trivial⟩ rfl (fun X hX=> ?_)
 by_cases h:ln a<ln b
 ·exact demurrageref01_Cmp_0 hX (by omega) (by simp only[InR];omega) (Cmp_loop ha hb hX (ln b) (by omega) (by rw[Nat.div_eq_of_lt (ln_le_iff.1 (by omega)),Nat.div_eq_of_lt (lt_ln b)]))
 ·exact demurrageref01_Cmp_1 hX (by omega) (by simp only[InR];omega) (Cmp_loop ha hb hX (ln a) (by omega) (by rw[Nat.div_eq_of_lt (lt_ln a),Nat.div_eq_of_lt (ln_le_iff.1 (by omega))]))
noncomputable def demurrageref01_Prod_h0 (n1:Nat) (g2:Nat→Int) (n3:Nat) (g4:Nat→Int) (x1:Int) (n5_:Nat) (g1051:Nat→Int) (n6_:Nat) (g1061:Nat→Int):SC:=
 ⟨[⟨41,slo 66 [(2, .ptr 2 0),(3, .ptr 3 0),(4, .ptr 4 0),(5, .sl 5 n5_),(6,I x1)],[.code (bodyAt Tryz.f41 [1,1,0,1,0,0]), .inLoop (bodyAt Tryz.f41 [1,1,0,1,0,0]), .inBlock 0, .code (bodyAt Tryz.f41 [1,1,1])],{}⟩],[ri n1 g2,ri n3 g4,some (.box true [.sl 0 n1]),some (.box true [.sl 1 n3]),some (.box true [.sl 6 n6_]),ro n5_ g1051,ro n6_ g1061]⟩
theorem demurrageref01_Prod_0 {X:Cx} {res:SV} {new:List (Option Vw)} {n1:Nat} {g2:Nat→Int} {n3:Nat} {g4:Nat→Int} (hX:Fi X 41 [ri n1 g2,ri n3 g4] res new) (h0:InR .i64 (((n1:Nat):Int)+((n3:Nat):Int))) (h1:InR .i64 ((((n1:Nat):Int)+((n3:Nat):Int))+1)) (h2:(0:Int)≤((((n1:Nat):Int)+((n3:Nat):Int))+1)) (h3:((8:Nat):Int)*((((n1:Nat):Int)+((n3:Nat):Int))+1)≤281474976710656) (h4:((((n1:Nat):Int)+((n3:Nat):Int))+1:Int)≤9223372036854775807) (k:Ok X (demurrageref01_Prod_h0 n1 g2 n3 g4 0 (((((n1:Nat):Int)+((n3:Nat):Int))+1).toNat) (fun i=>0) 0 (fun _=>default))):
  Ok X (entry Tryz.prog 41 [.agg [.sl 0 n1], .agg [.sl 1 n3]] [ri n1 g2,ri n3 g4]):=
 Ok.cutM 26 [] [msk 66 [2,3,4,5,6]] [.old 0, .old 1, .old 2, .old 3, .old 4, .old 5, .nil 1] 2 hX.P hX.gl hX.n0 (by kernel_rfl) (by kernel_rfl) (by exact⟨fun _=>rfl,fun _=>rfl,rfl,rfl,rfl,fun _=>rfl,fun _=>rfl,trivial⟩) (ca h0 (ca h1 (ca (show((((n1:Nat):Int)+((n3:Nat):Int))+1:Int)=((((n1:Nat):Int)+((n3:Nat):Int))+1)from rfl) (ca h2 (ca h3 (ca h4 na)))))) k
noncomputable def demurrageref01_Prod_h1 (n1:Nat) (g2:Nat→Int) (n3:Nat) (g4:Nat→Int) (x1:Int) (x2:Int) (x3:Int) (n5_:Nat) (g1051:Nat→Int) (n6_:Nat) (g1061:Nat→Int):SC:=
 ⟨[⟨41,slo 66 [(2, .ptr 2 0),(3, .ptr 3 0),(4, .ptr 4 0),(5, .sl 5 n5_),(6,I x1),(7,I x2),(8,I x3)],[.code (bodyAt Tryz.f41 [1,1,0,1,0,0,1,0,0,1,1,0,0]), .inLoop (bodyAt Tryz.f41 [1,1,0,1,0,0,1,0,0,1,1,0,0]), .inBlock 2, .inBlock 1, .code (bodyAt Tryz.f41 [1,1,0,1,0,0,1,1]), .inLoop (bodyAt Tryz.f41 [1,1,0,1,0,0]), .inBlock 0, .code (bodyAt Tryz.f41 [1,1,1])],{}⟩],[ri n1 g2,ri n3 g4,some (.box true [.sl 0 n1]),some (.box true [.sl 1 n3]),some (.box true [.sl 6 n6_]),ro n5_ g1051,ro n6_ g1061]⟩
theorem demurrageref01_Prod_1 {X:Cx} {res:SV} {new:List (Option Vw)} {n1:Nat} {g2:Nat→Int} {n3:Nat} {g4:Nat→Int} {x1:Int} {n5_:Nat} {g1051:Nat→Int} {n6_:Nat} {g1061:Nat→Int} (hX:Fi X 41 [ri n1 g2,ri n3 g4] res new) (h0:x1<((n1:Nat):Int)) (k:Ok X (demurrageref01_Prod_h1 n1 g2 n3 g4 x1 0 0 n5_ g1051 n6_ g1061)):
  Ok X (demurrageref01_Prod_h0 n1 g2 n3 g4 x1 n5_ g1051 n6_ g1061):=
 Ok.cutM 23 [tb] [msk 66 [2,3,4,5,6,7,8]] [.old 0, .old 1, .old 2, .old 3, .old 4, .old 5, .old 6] 2 hX.P hX.gl hX.n0 (by kernel_rfl) (by kernel_rfl) (by exact⟨fun _=>rfl,fun _=>rfl,rfl,rfl,rfl,fun _=>rfl,fun _=>rfl,trivial⟩) (ca (dt h0) na) k
theorem demurrageref01_Prod_2 {X:Cx} {n1:Nat} {g2:Nat→Int} {n3:Nat} {g4:Nat→Int} {x1:Int} {n5_:Nat} {g1051:Nat→Int} {n6_:Nat} {g1061:Nat→Int} {n5002:Nat} {g5003:Nat→Int} (hX:Fi X 41 [ri n1 g2,ri n3 g4] (.agg [.sl 2 n5002]) [ro n5002 g5003]) (h0: ¬x1<((n1:Nat):Int)) (h1:S 65 [.sl 0 n5_] [ri n5_ g1051] (.agg [.sl 1 n5002]) [ro n5002 g5003]):
  Ok X (demurrageref01_Prod_h0 n1 g2 n3 g4 x1 n5_ g1051 n6_ g1061):=
 Ok.fin 17 [fb, .call [5] (.agg [.sl 1 n5002]) [ro n5002 g5003]] [7] 8 hX (by kernel_rfl) rfl (ca (df h0) (ca h1 na))
theorem demurrageref01_Prod_3 {X:Cx} {res:SV} {new:List (Option Vw)} {n1:Nat} {g2:Nat→Int} {n3:Nat} {g4:Nat→Int} {x1 x2 x3:Int} {n5_:Nat} {g1051:Nat→Int} {n6_:Nat} {g1061:Nat→Int} {r5004:Int} {q5005:Nat→Int} (hX:Fi X 41 [ri n1 g2,ri n3 g4] res new) (h0:x3<((n3:Nat):Int)) (h1:InR .i64 (x1+x3)) (h2:(0:Int)≤(x1+x3)∧(x1+x3)<((n5_:Nat):Int)) (h3:(0:Int)≤x1∧x1<((n1:Nat):Int)) (h4:S 64 [.agg [.sl 0 n3],I x3] [ri n3 g4] (I r5004) []) (h5:InR .i64 ((g2 x1.toNat)*r5004)) (h6:InR .i64 ((g1051 ((x1+x3).toNat))+((g2 x1.toNat)*r5004))) (h7:InR .i64 (((g1051 ((x1+x3).toNat))+((g2 x1.toNat)*r5004))+x2)) (h8:(0:Int)≤(((g1051 ((x1+x3).toNat))+((g2 x1.toNat)*r5004))+x2)) (h9: ∀ k,k<n5_→q5005 k=if k=((x1+x3).toNat)then((((g1051 ((x1+x3).toNat))+((g2 x1.toNat)*r5004))+x2)%10000)else(g1051 k)) (h10:InR .i64 ((((g1051 ((x1+x3).toNat))+((g2 x1.toNat)*r5004))+x2)/10000)) (h11:InR .i64 (x3+1)) (k:Ok X (demurrageref01_Prod_h1 n1 g2 n3 g4 x1 ((((g1051 ((x1+x3).toNat))+((g2 x1.toNat)*r5004))+x2)/10000) (x3+1) n5_ q5005 n6_ g1061)):
  Ok X (demurrageref01_Prod_h1 n1 g2 n3 g4 x1 x2 x3 n5_ g1051 n6_ g1061):=
 Ok.cutM 45 [tb,tb,tb,tb, .draw 17 [] 0, .call [1] (I r5004) [], .row (fun i=>[I (q5005 i)])] [msk 66 [2,3,4,5,6,7,8]] [.old 0, .old 1, .old 2, .old 3, .old 4, .old 5, .old 6] 2 hX.P hX.gl hX.n0 (by kernel_rfl) (by kernel_rfl) (by exact⟨fun _=>rfl,fun _=>rfl,rfl,rfl,rfl,fun _=>rfl,fun _=>rfl,trivial⟩) (ca (dt h0) (ca (dt h0) (ca (dt h0) (ca rt (ca h1 (ca h2 (ca (re n5_) (ca h2 (ca h3 (ca (re n1) (ca h3 (ca h4 (ca h5 (ca h6 (ca h7 (ca h1 (ca h8 (ca (show(0:Int)<10000 from by decide) (ca h2 (ca (re n5_) (ca h2 (ca (show ∀ k,k<n5_→(fun i=>[I (q5005 i)]) k=if k=((x1+x3).toNat)then putRow ((fun i=>[I (g1051 i)]) k) 0 [I ((((g1051 ((x1+x3).toNat))+((g2 x1.toNat)*r5004))+x2)%10000)]else(fun i=>[I (g1051 i)]) k from fun k hk=>by
   have e0:=h9 k hk
   by_cases c:k=((x1+x3).toNat)
   ·rw[if_pos c]at e0⊢;simp only[e0];try rfl
   ·rw[if_neg c]at e0⊢;simp only[e0]) (ca h8 (ca (show(0:Int)<10000 from by decide) (ca h10 (ca h11 na)))))))))))))))))))))))))) k
theorem demurrageref01_Prod_4 {X:Cx} {res:SV} {new:List (Option Vw)} {n1:Nat} {g2:Nat→Int} {n3:Nat} {g4:Nat→Int} {x1 x2 x3:Int} {n5_:Nat} {g1051:Nat→Int} {n6_:Nat} {g1061:Nat→Int} {r5004:Int} {q5005:Nat→Int} (hX:Fi X 41 [ri n1 g2,ri n3 g4] res new) (h0: ¬x3<((n3:Nat):Int)) (h1:x2>0) (h2:InR .i64 (x1+x3)) (h3:(0:Int)≤(x1+x3)∧(x1+x3)<((n5_:Nat):Int)) (h4:(0:Int)≤x1∧x1<((n1:Nat):Int)) (h5:S 64 [.agg [.sl 0 n3],I x3] [ri n3 g4] (I r5004) []) (h6:InR .i64 ((g2 x1.toNat)*r5004)) (h7:InR .i64 ((g1051 ((x1+x3).toNat))+((g2 x1.toNat)*r5004))) (h8:InR .i64 (((g1051 ((x1+x3).toNat))+((g2 x1.toNat)*r5004))+x2)) (h9:(0:Int)≤(((g1051 ((x1+x3).toNat))+((g2 x1.toNat)*r5004))+x2)) (h10: ∀ k,k<n5_→q5005 k=if k=((x1+x3).toNat)then((((g1051 ((x1+x3).toNat))+((g2 x1.toNat)*r5004))+x2)%10000)else(g1051 k)) (h11:InR .i64 ((((g1051 ((x1+x3).toNat))+((g2 x1.toNat)*r5004))+x2)/10000)) (h12:InR .i64 (x3+1)) (k:Ok X (demurrageref01_Prod_h1 n1 g2 n3 g4 x1 ((((g1051 ((x1+x3).toNat))+((g2 x1.toNat)*r5004))+x2)/10000) (x3+1) n5_ q5005 n6_ g1061)):
  Ok X (demurrageref01_Prod_h1 n1 g2 n3 g4 x1 x2 x3 n5_ g1051 n6_ g1061):=
 Ok.cutM 45 [fb,fb,fb,tb, .draw 17 [] 0, .call [1] (I r5004) [], .row (fun i=>[I (q5005 i)])] [msk 66 [2,3,4,5,6,7,8]] [.old 0, .old 1, .old 2, .old 3, .old 4, .old 5, .old 6] 2 hX.P hX.gl hX.n0 (by kernel_rfl) (by kernel_rfl) (by exact⟨fun _=>rfl,fun _=>rfl,rfl,rfl,rfl,fun _=>rfl,fun _=>rfl,trivial⟩) (ca (df h0) (ca (df h0) (ca (df h0) (ca (dt h1) (ca h2 (ca h3 (ca (re n5_) (ca h3 (ca h4 (ca (re n1) (ca h4 (ca h5 (ca h6 (ca h7 (ca h8 (ca h2 (ca h9 (ca (show(0:Int)<10000 from by decide) (ca h3 (ca (re n5_) (ca h3 (ca (show ∀ k,k<n5_→(fun i=>[I (q5005 i)]) k=if k=((x1+x3).toNat)then putRow ((fun i=>[I (g1051 i)]) k) 0 [I ((((g1051 ((x1+x3).toNat))+((g2 x1.toNat)*r5004))+x2)%10000)]else(fun i=>[I (g1051 i)]) k from fun k hk=>by
   have e0:=h10 k hk
   by_cases c:k=((x1+x3).toNat)
   ·rw[if_pos c]at e0⊢;simp only[e0];try rfl
   ·rw[if_neg c]at e0⊢;simp only[e0]) (ca h9 (ca (show(0:Int)<10000 from by decide) (ca h11 (ca h12 na)))))))))))))))))))))))))) k
theorem demurrageref01_Prod_5 {X:Cx} {res:SV} {new:List (Option Vw)} {n1:Nat} {g2:Nat→Int} {n3:Nat} {g4:Nat→Int} {x1 x2 x3:Int} {n5_:Nat} {g1051:Nat→Int} {n6_:Nat} {g1061:Nat→Int} (hX:Fi X 41 [ri n1 g2,ri n3 g4] res new) (h0: ¬x3<((n3:Nat):Int)) (h1: ¬x2>0) (h2:InR .i64 (x1+1)) (k:Ok X (demurrageref01_Prod_h0 n1 g2 n3 g4 (x1+1) n5_ g1051 n6_ g1061)):
  Ok X (demurrageref01_Prod_h1 n1 g2 n3 g4 x1 x2 x3 n5_ g1051 n6_ g1061):=
 Ok.cutM 22 [fb,fb,fb,fb] [msk 66 [2,3,4,5,6]] [.old 0, .old 1, .old 2, .old 3, .old 4, .old 5, .old 6] 2 hX.P hX.gl hX.n0 (by kernel_rfl) (by kernel_rfl) (by exact⟨fun _=>rfl,fun _=>rfl,rfl,rfl,rfl,fun _=>rfl,fun _=>rfl,trivial⟩) (ca (df h0) (ca (df h0) (ca (df h0) (ca (df h1) (ca h2 na))))) k
theorem Prod_in {X:Cx} {a b i L:Nat} {n6:Nat} {g6:Nat→Int} (hi:i<ln a) (hL:L=ln a+ln b+1) (ha:ln a≤1000) (hb:ln b≤1000) {res:SV} {new:List (Option Vw)} (hX:IsFin X Tryz.prog GL 41 [BR false a,BR false b] res new)
  (k: ∀ F:Nat→Nat,(∀ k,k<L→F k<10000)→vl F L=(a%10000^(i+1))*b→Ok X (demurrageref01_Prod_h0 (ln a) (dg a) (ln b) (dg b) (((i+1:Nat):Int)) L (fun k=>((F k:Nat):Int)) n6 g6)):
  ∀ (m j c:Nat) (F:Nat→Nat),L+1-j=m→i+j≤L→(∀ k,k<L→F k<10000)→vl F L+c*10000^(i+j)=(a%10000^i)*b+dgN a i*(b%10000^j)*10000^i→c<10000→
    Ok X (demurrageref01_Prod_h1 (ln a) (dg a) (ln b) (dg b) (i:Int) (c:Int) (j:Int) L (fun k=>((F k:Nat):Int)) n6 g6)
 |0,j,c,F,hm,hj,hF,hv,hc=>by omega
 |m+1,j,c,F,hm,hj,hF,hv,hc=>by
  have h1:=dgN_lt a i
  have h2:=dgN_lt b j
  have hd:dg a i=(dgN a i:Int):=rfl
  have hd':dg b j=(dgN b j:Int):=rfl
  by_cases hs:j<ln b∨0<c
  ·
   have hlt:i+j<L:=by
    rcases hs with h|h
    ·omega
    ·refine Nat.lt_of_not_le (fun h3=> ?_)
     have h4:(a%10000^i)*b+dgN a i*(b%10000^j)*10000^i≤(a%10000^(i+1))*b:=by
      rw[mod_succ,Nat.add_mul]
      have h5:=Nat.mod_le b (10000^j)
      have h6:dgN a i*(b%10000^j)*10000^i≤dgN a i*b*10000^i:=Nat.mul_le_mul_right _ (Nat.mul_le_mul_left _ h5)
      have h7:dgN a i*b*10000^i=dgN a i*10000^i*b:=by rw[Nat.mul_assoc,Nat.mul_comm b,←Nat.mul_assoc]
      omega
     have h5:(a%10000^(i+1))*b≤a*b:=Nat.mul_le_mul_right _ (Nat.mod_le _ _)
     have h6:a*b<10000^(ln a+ln b):=ln_le_iff.1 (ln_mul a b)
     have h7:10000^(ln a+ln b)≤10000^(i+j):=pow_le_iff.2 (by omega)
     have h8:1*10000^(i+j)≤c*10000^(i+j):=Nat.mul_le_mul_right _ h
     omega
   have h3:=hF (i+j) hlt
   have h4:dgN a i*dgN b j≤9999*9999:=Nat.mul_le_mul (by omega) (by omega)
   have h5:(dgN a i:Int)*(dgN b j:Int)=((dgN a i*dgN b j:Nat):Int):=by simp
   have e1:((i:Int)+(j:Int)).toNat=i+j:=by omega
   have e2:(i:Int).toNat=i:=rfl
   have e:((F (i+j):Nat):Int)+dg a i*dg b j+(c:Int)=((F (i+j)+dgN a i*dgN b j+c:Nat):Int):=by rw[hd,hd',h5];omega
   have hgo:Ok X (demurrageref01_Prod_h1 (ln a) (dg a) (ln b) (dg b) (i:Int) ((((F (i+j):Nat):Int)+dg a i*dg b j+(c:Int))/10000) ((j:Int)+1) L (fun k=>(((if k=i+j then(F (i+j)+dgN a i*dgN b j+c)%10000 else F k):Nat):Int)) n6 g6):=by
    rw[e,show((F (i+j)+dgN a i*dgN b j+c:Nat):Int)/10000=(((F (i+j)+dgN a i*dgN b j+c)/10000:Nat):Int)from rfl]
    refine Prod_in hi hL ha hb hX k m (j+1) _ _ (by omega) (by omega) ?_ ?_ (by omega)
    ·intro k hk;split
     ·omega
     ·exact hF k hk
    ·have h6:= @vl_set F (i+j) ((F (i+j)+dgN a i*dgN b j+c)%10000) L hlt
     have h7:=Nat.div_add_mod (F (i+j)+dgN a i*dgN b j+c) 10000
     generalize (F (i+j)+dgN a i*dgN b j+c)/10000=q at*
     generalize (F (i+j)+dgN a i*dgN b j+c)%10000=r at*
     have h8:(10000*q+r)*10000^(i+j)=(F (i+j)+dgN a i*dgN b j+c)*10000^(i+j):=by rw[h7]
     rw[mod_succ,←Nat.add_assoc i j 1,Nat.pow_succ,Nat.mul_add,Nat.add_mul]
     rw[Nat.add_mul,Nat.add_mul,Nat.add_mul]at h8
     have h9:10000*q*10000^(i+j)=q*(10000^(i+j)*10000):=by rw[Nat.mul_comm 10000 q,Nat.mul_assoc,Nat.mul_comm 10000]
     have h10:dgN a i*(dgN b j*10000^j)*10000^i=dgN a i*dgN b j*10000^(i+j):=by
      rw[Nat.pow_add,←Nat.mul_assoc,Nat.mul_assoc _ (10000^j),Nat.mul_comm (10000^j)]
     omega
   have hq: ∀ k,k<L→(((if k=i+j then(F (i+j)+dgN a i*dgN b j+c)%10000 else F k):Nat):Int)=if k=((i:Int)+(j:Int)).toNat then(((F (((i:Int)+(j:Int)).toNat):Nat):Int)+dg a (i:Int).toNat*dg b j+(c:Int))%10000 else((F k:Nat):Int):=by
    intro k hk
    rw[e1,e2,e]
    split<;>rfl
   have i1:InR .i64 (dg a (i:Int).toNat*dg b j):=by rw[e2,hd,hd',h5];simp only[InR];omega
   have i2:InR .i64 (((F (((i:Int)+(j:Int)).toNat):Nat):Int)+dg a (i:Int).toNat*dg b j):=by rw[e1,e2,hd,hd',h5];simp only[InR];omega
   have i3:InR .i64 (((F (((i:Int)+(j:Int)).toNat):Nat):Int)+dg a (i:Int).toNat*dg b j+(c:Int)):=by rw[e1,e2,e];simp only[InR];omega
   have i4:(0:Int)≤(((F (((i:Int)+(j:Int)).toNat):Nat):Int)+dg a (i:Int).toNat*dg b j+(c:Int)):=by rw[e1,e2,e];omega
   have i5:InR .i64 ((((F (((i:Int)+(j:Int)).toNat):Nat):Int)+dg a (i:Int).toNat*dg b j+(c:Int))/10000):=by rw[e1,e2,e];simp only[InR];omega
   have hgo':Ok X (demurrageref01_Prod_h1 (ln a) (dg a) (ln b) (dg b) (i:Int) ((((F (((i:Int)+(j:Int)).toNat):Nat):Int)+dg a (i:Int).toNat*dg b j+(c:Int))/10000) ((j:Int)+1) L (fun k=>(((if k=i+j then(F (i+j)+dgN a i*dgN b j+c)%10000 else F k):Nat):Int)) n6 g6):=by rw[e1];exact hgo
   by_cases h6:j<ln b
   ·exact demurrageref01_Prod_3 hX (by omega) (by simp only[InR];omega) (by omega) (by omega) part i1 i2 i3 i4 hq i5 (by simp only[InR];omega) hgo'
   ·exact demurrageref01_Prod_4 hX (by omega) (by omega) (by simp only[InR];omega) (by omega) (by omega) part i1 i2 i3 i4 hq i5 (by simp only[InR];omega) hgo'
  ·have hc0:c=0:=by omega
   subst hc0
   refine demurrageref01_Prod_5 hX (by omega) (by omega) (by simp only[InR];omega) ?_
   refine k F hF ?_
   rw[mod_full (v:=b) (by omega),Nat.zero_mul,Nat.add_zero]at hv
   rw[hv,mod_succ,Nat.add_mul,Nat.mul_assoc,Nat.mul_comm b,←Nat.mul_assoc]
theorem Prod_out {X:Cx} {a b L:Nat} {n6:Nat} {g6:Nat→Int} (hL:L=ln a+ln b+1) (ha:ln a≤1000) (hb:ln b≤1000) (hX:IsFin X Tryz.prog GL 41 [BR false a,BR false b] (.agg [.sl 2 (ln (a*b))]) [BR true (a*b)]):
  ∀ (m i:Nat) (F:Nat→Nat),ln a-i=m→i≤ln a→(∀ k,k<L→F k<10000)→vl F L=(a%10000^i)*b→Ok X (demurrageref01_Prod_h0 (ln a) (dg a) (ln b) (dg b) (i:Int) L (fun k=>((F k:Nat):Int)) n6 g6)
 |0,i,F,hm,hi,hF,hv=>by
  have e:i=ln a:=by omega
  rw[e,mod_full (Nat.le_refl _)]at hv
  have h3:=trim hF (by omega)
  rw[hv]at h3
  exact demurrageref01_Prod_2 hX (by omega) h3
 |m+1,i,F,hm,hi,hF,hv=>by
  refine demurrageref01_Prod_1 hX (by omega) ?_
  refine Prod_in (by omega) hL ha hb hX (fun F' hF' hv'=>Prod_out hL ha hb hX m (i+1) F' (by omega) (by omega) hF' hv') _ 0 0 F rfl (by omega) hF ?_ (by omega)
  rw[hv];simp[Nat.mod_one]
theorem Prod {a b:Nat} (ha:ln a≤1000) (hb:ln b≤1000):SCall Tryz.prog GL 41 [.agg [.sl 0 (ln a)], .agg [.sl 1 (ln b)]] [BR false a,BR false b] (.agg [.sl 2 (ln (a*b))]) [BR true (a*b)]:=by
 refine SCall.of (by kernel_rfl) rfl ⟨fun i=>rfl,fun i=>rfl,trivial⟩ rfl (fun X hX=> ?_)
 refine demurrageref01_Prod_0 hX (by simp only[InR];omega) (by simp only[InR];omega) (by omega) (by omega) (by omega) ?_
 rw[show((((ln a:Nat):Int)+((ln b:Nat):Int))+1).toNat=ln a+ln b+1 by omega]
 exact Prod_out (F:=fun _=>0) rfl ha hb hX _ 0 rfl (by omega) (fun k hk=>by omega) (by rw[vl_zero (fun i hi=>rfl)];simp[Nat.mod_one])
end Go.Proofs.YtelidogcomffkaaGreatDoor
