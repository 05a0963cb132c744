/-
A loan's steps, as the program finds them (chapter 16): a range over a function.
-/
import Derived.Test.YtelidogcomffkaaGreatDoorMv
import Derived.Test.YtelidogcomffkaaGreatDoorTm
import Derived.Test.YtelidogcomffkaaGreatDoorAcc
import Derived.Test.YtelidogcomffkaaGreatDoorProg
import Derived.KernelRfl
set_option linter.unusedVariables false
set_option linter.unusedSimpArgs false
set_option linter.unusedSectionVars false
namespace Go.Proofs.YtelidogcomffkaaGreatDoor
open Go Go.Sx
variable [Env]
def btw (s e n:Int):Bool:=decide (n>s∧n<e)
theorem btw_t {s e n:Int}:btw s e n=true↔n>s∧n<e:=by unfold btw;rw[decide_eq_true_eq]
def cntG (st:Nat→Int×Int) (s e:Int):Nat→Nat→Nat
 |0,k=>k
 |f+1,k=>if(st k).2≠0 then k else if 1≤k∧btw s e (st k).1=false then k+1 else cntG st s e f (k+1)
theorem cntG_no {st:Nat→Int×Int} {s e:Int} {f k:Nat} (h:(st k).2≠0):cntG st s e (f+1) k=k:=by unfold cntG;rw[if_pos h]
theorem cntG_stop {st:Nat→Int×Int} {s e:Int} {f k:Nat} (h:(st k).2=0) (h1:1≤k) (h2:btw s e (st k).1=false):cntG st s e (f+1) k=k+1:=by
 unfold cntG;rw[if_neg (by rw[h];decide),if_pos ⟨h1,h2⟩]
theorem cntG_on {st:Nat→Int×Int} {s e:Int} {f k:Nat} (h:(st k).2=0) (h1:k=0∨btw s e (st k).1=true):cntG st s e (f+1) k=cntG st s e f (k+1):=by
 conv=>lhs;unfold cntG
 rw[if_neg (by rw[h];decide),if_neg]
 rintro ⟨c1,c2⟩
 rcases h1 with h1|h1
 ·omega
 ·rw[h1]at c2;cases c2
theorem cntG_ok {st:Nat→Int×Int} {s e:Int}: ∀ (f k:Nat),k≤cntG st s e f k∧cntG st s e f k≤k+f∧(∀ j,k≤j→j<cntG st s e f k→(st j).2=0)∧(∀ j,k≤j→1≤j→j+1<cntG st s e f k→btw s e (st j).1=true)∧
  (cntG st s e f k<k+f→((st (cntG st s e f k)).2≠0∧(k<cntG st s e f k→2≤cntG st s e f k→btw s e (st (cntG st s e f k-1)).1=true))∨(k<cntG st s e f k∧2≤cntG st s e f k∧btw s e (st (cntG st s e f k-1)).1=false))
 |0,k=>⟨Nat.le_refl _,Nat.le_refl _,fun j h1 h2=>absurd h2 (by unfold cntG;omega),fun j h1 _ h2=>absurd h2 (by unfold cntG;omega),fun h=>absurd h (by unfold cntG;omega)⟩
 |f+1,k=>by
  by_cases h:(st k).2=0
  ·by_cases h1:1≤k∧btw s e (st k).1=false
   ·rw[cntG_stop h h1.1 h1.2]
    refine⟨by omega,by omega,fun j a b=> ?_,fun j a _ b=>by omega,fun _=> .inr ⟨by omega,by omega, ?_⟩⟩
    ·rw[show j=k by omega];exact h
    ·rw[Nat.add_sub_cancel];exact h1.2
   ·have h2:k=0∨btw s e (st k).1=true:=by
     rcases Nat.eq_zero_or_pos k with c|c
     ·exact .inl c
     ·refine .inr ?_
      cases hb:btw s e (st k).1
      ·exact absurd ⟨c,hb⟩ h1
      ·rfl
    rw[cntG_on h h2]
    obtain⟨q1,q2,q3,q4,q5⟩:=cntG_ok (st:=st) (s:=s) (e:=e) f (k+1)
    refine⟨by omega,by omega,fun j a b=> ?_,fun j a c b=> ?_,fun c=> ?_⟩
    ·rcases Nat.lt_or_ge k j with g|g
     ·exact q3 j g b
     ·rw[show j=k by omega];exact h
    ·rcases Nat.lt_or_ge k j with g|g
     ·exact q4 j g c b
     ·rw[show j=k by omega]
      rcases h2 with h2|h2
      ·omega
      ·exact h2
    ·rcases q5 (by omega)with⟨a,b⟩|⟨a,b,g⟩
     ·refine .inl ⟨a,fun a1 a2=> ?_⟩
      rcases Nat.lt_or_ge (k+1) (cntG st s e f (k+1))with g|g
      ·exact b g a2
      ·have e1:cntG st s e f (k+1)=k+1:=by omega
       rw[e1,Nat.add_sub_cancel]
       rcases h2 with h2|h2
       ·omega
       ·exact h2
     ·exact .inr ⟨by omega,b,g⟩
  ·rw[cntG_no h]
   exact⟨Nat.le_refl _,by omega,fun j a b=>by omega,fun j a _ b=>by omega,fun _=> .inl ⟨h,fun c=>by omega⟩⟩
def stp (s e mo:Int) (back eom:Bool) (k:Nat):Int×Int:=if back=true then mv e ((k:Int)*(-mo)) eom else mv s ((k:Int)*mo) eom
def gN (s e mo:Int) (back eom:Bool):Nat:=cntG (stp s e mo back eom) s e 1300 0
structure Loan (s e mo:Int):Prop where
 ds:isDay s=true
 de:isDay e=true
 se:s<e
 m1:1≤mo
 m2:mo≤12
theorem stp_zero {s e mo:Int} {back eom:Bool} (h:Loan s e mo):stp s e mo back eom 0=(if back=true then e else s,0):=by
 unfold stp
 cases back
 ·simp[mv_zero h.ds]
 ·simp[mv_zero h.de]
theorem stp_far {s e mo:Int} {eom:Bool} (h:Loan s e mo) {k:Nat} (hk:1≤k):
  ((stp s e mo false eom k).2=0→s+28*((k:Int)*mo)-30≤(stp s e mo false eom k).1∧s<(stp s e mo false eom k).1)∧
  ((stp s e mo true eom k).2=0→(stp s e mo true eom k).1+28*((k:Int)*mo)-30≤e∧(stp s e mo true eom k).1<e):=by
 have hp:0<(k:Int)*mo:=Int.mul_pos (by omega) (by have:=h.m1;omega)
 refine⟨fun hz=> ?_,fun hz=> ?_⟩
 ·have:=mv_lt (n:=s) (k:=0) (k':=(k:Int)*mo) (eom:=eom) (by rw[mv_zero h.ds]) hz hp
  rw[mv_zero h.ds]at this
  unfold stp
  simpa using this
 ·have hz':(mv e ((k:Int)*(-mo)) eom).2=0:=by simpa[stp]using hz
  rw[Int.mul_neg]at hz'
  have:=mv_lt (n:=e) (k:= -((k:Int)*mo)) (k':=0) (eom:=eom) hz' (by rw[mv_zero h.de]) (by omega)
  rw[mv_zero h.de]at this
  unfold stp
  rw[if_pos rfl,Int.mul_neg]
  simp only at this
  omega
theorem stp_mono {s e mo:Int} {back eom:Bool} (h:Loan s e mo) {j k:Nat} (hj:j<k) (h1:(stp s e mo back eom j).2=0) (h2:(stp s e mo back eom k).2=0):
  if back=true then(stp s e mo back eom k).1<(stp s e mo back eom j).1 else(stp s e mo back eom j).1<(stp s e mo back eom k).1:=by
 have hm:=h.m1
 have hp:(j:Int)*mo<(k:Int)*mo:=Int.mul_lt_mul_of_pos_right (by omega) (by omega)
 cases back
 ·rw[if_neg (by decide)]
  unfold stp at h1 h2⊢
  rw[if_neg (by decide)]at h1 h2⊢
  rw[if_neg (by decide)]
  exact(mv_lt h1 h2 hp).2
 ·rw[if_pos rfl]
  unfold stp at h1 h2⊢
  rw[if_pos rfl]at h1 h2⊢
  rw[if_pos rfl]
  rw[Int.mul_neg]at h1 h2⊢
  rw[Int.mul_neg]
  exact(mv_lt h2 h1 (by omega)).2
theorem gN_le {s e mo:Int} {back eom:Bool} (h:Loan s e mo) (hs:e-s≤6200*mo):1≤gN s e mo back eom∧gN s e mo back eom≤250:=by
 obtain⟨q1,q2,q3,q4,q5⟩:=cntG_ok (st:=stp s e mo back eom) (s:=s) (e:=e) 1300 0
 have h0:=stp_zero (back:=back) (eom:=eom) h
 constructor
 ·unfold gN
  rw[show(1300:Nat)=1299+1 from rfl,cntG_on (by rw[h0]) (.inl rfl)]
  exact(cntG_ok 1299 1).1
 ·refine Nat.not_lt.1 fun c=> ?_
  unfold gN at c
  have z:=q3 249 (by omega) (by omega)
  have b:=btw_t.1 (q4 249 (by omega) (by omega) (by omega))
  have hm:=h.m1
  have hp:((249:Nat):Int)*mo=249*mo:=rfl
  cases back
  ·have:=(stp_far h (k:=249) (eom:=eom) (by omega)).1 z
   omega
  ·have:=(stp_far h (k:=249) (eom:=eom) (by omega)).2 z
   omega
theorem gN_ok {s e mo:Int} {back eom:Bool} (h:Loan s e mo) (hs:e-s≤6200*mo):
  (∀ j,j<gN s e mo back eom→(stp s e mo back eom j).2=0)∧(∀ j,1≤j→j+1<gN s e mo back eom→btw s e (stp s e mo back eom j).1=true)∧
  (((stp s e mo back eom (gN s e mo back eom)).2≠0∧(2≤gN s e mo back eom→btw s e (stp s e mo back eom (gN s e mo back eom-1)).1=true))∨(2≤gN s e mo back eom∧btw s e (stp s e mo back eom (gN s e mo back eom-1)).1=false)):=by
 obtain⟨l1,l2⟩:=gN_le (back:=back) (eom:=eom) h hs
 obtain⟨q1,q2,q3,q4,q5⟩:=cntG_ok (st:=stp s e mo back eom) (s:=s) (e:=e) 1300 0
 refine⟨fun j hj=>q3 j (by omega) hj,fun j h1 h2=>q4 j (by omega) h1 h2, ?_⟩
 rcases q5 (by unfold gN at l2;omega)with⟨a,b⟩|⟨a,b,c⟩
 ·exact .inl ⟨a,fun g=>b (by unfold gN at g;omega) g⟩
 ·exact .inr ⟨b,c⟩
end Go.Proofs.YtelidogcomffkaaGreatDoor
set_option linter.unusedVariables false
set_option linter.unusedSimpArgs false
set_option linter.unusedSectionVars false
set_option maxRecDepth 100000
namespace Go.Proofs.YtelidogcomffkaaGreatDoor
open Go Go.Sx
variable [EnvT]
theorem dBtw (a1 a2 a3 a4 a5 a6 a7:Int) (a8 a9 a10:Bool) (a11 n:Int):
  S 103 [.agg [I a1,I a2,I a3,I a4,I a5,I a6,I a7,B a8,B a9,B a10,I a11],I n] [] (B (btw a5 a6 n)) []:=by
 refine SCall.st fun X hX=> ?_
 by_cases h0:n>a5
 ·exact(hX.to (show _=B (decide (n<a6))by unfold btw;by_cases h1:n<a6<;>simp[h0,h1])).e [n_ 5 (t_ (dt h0))]
 ·exact(hX.to (show _=B false by unfold btw;simp[h0])).e [n_ 5 (f_ (df h0))]
theorem chk_loan {a1 a2 a3 a4 a5 a6 a7 a11:Int} (h:chk a1 a2 a3 a4 a5 a6 a7 a11=0):Loan a5 a6 a7:=by
 unfold chk at h
 split at h
 ·cases h
 ·rename_i h1
  split at h
  ·cases h
  ·rename_i h2
   split at h
   ·cases h
   ·rename_i h3
    have hf:frq a7≠0:=fun e=>h1 (by simp[e])
    have h4:1≤a7∧12%a7=0:=by
     by_cases c:a7<1∨12%a7≠0
     ·exact absurd (frq_no c) hf
     ·omega
    refine⟨?_, ?_,by omega,h4.1, ?_⟩
    ·cases hb:isDay a5
     ·exact absurd (.inl hb) h2
     ·rfl
    ·cases hb:isDay a6
     ·exact absurd (.inr hb) h2
     ·rfl
    ·refine Int.not_lt.1 fun c=> ?_
     have:=Int.emod_eq_of_lt (a:=12) (b:=a7) (by decide) c
     omega
abbrev gV (T:List SV) (A b:Int) (D lp:Nat) (r:Loop) (n:Nat) (g:Nat→Int):List (Option Vw):=
 [some (.box true T),some (.box true [.val (.slice none 0 0)]),some (.box true [I 0]),some (.box true [.sl 9 n]),some (.box true T),some (.box true [I A]),some (.box true [I b]),some (.obj true D (.deferred (some []))),some (.obj true lp (.loop r)),ro n g]
abbrev gV2 (T:List SV) (A b:Int) (D lp:Nat) (r:Loop) (n:Nat) (g:Nat→Int):List (Option Vw):=
 [some (.box true T),some (.box true [.val (.slice none 0 0)]),some (.box true [I 0]),some (.box true [.sl 11 n]),some (.box true T),some (.box true [I A]),some (.box true [I b]),some (.obj true D (.deferred (some []))),some (.obj true lp (.loop r)),none,none,ro n g]
abbrev gT (a1 a2 a3 a4 a5 a6 a7:Int) (a8 a9 a10:Bool) (a11:Int):List SV:=[I a1,I a2,I a3,I a4,I a5,I a6,I a7,B a8,B a9,B a10,I a11]
noncomputable abbrev fG:FuncId:=78
noncomputable abbrev fI:FuncId:=139
noncomputable abbrev cG (p:List Nat):Code:=bodyAt Tryz.f78 p
noncomputable abbrev cI (p:List Nat):Code:=bodyAt Tryz.f139 p
noncomputable abbrev oI (p:List Nat):Array Oper:=opsAt Tryz.f139 p
noncomputable abbrev lGf:List (Option SV):=slo 36 [(1, .ptr 0 0),(2, .ptr 1 0),(3, .ptr 2 0),(5, .ptr 3 0),(13, .fn (.func fI) [] [.ptr 5 0, .ptr 6 0, .ptr 4 0])]
noncomputable abbrev kG:List Item:=[.inBlock 0, .code (cG [1,1,1,1])]
abbrev rx (D:Nat):Rx:=⟨none,[{target:= .collected D,args:= #[]}],false⟩
noncomputable abbrev lpR (T:Array Value) (D:Nat) (st:LoopState) (pd:Option Code):Loop:={state:=st,pending:=pd,fn:=fG,tmps:=T,params:= #[14],assign:=cG [1,1,1,0,1,0,0],body:=cG [1,1,1,0,1,0,1],defers:=D}
noncomputable abbrev kI:List Item:=[.inBlock 1, .code (cI [1,0,0,1]), .inLoop (cI [1,0,0]), .inBlock 0]
noncomputable abbrev itH (lp:Nat) (k:Int) (hp:List (Option Vw)):SC:=
 ⟨[⟨fI,slo 28 [(0, .val (.func (.yield lp) #[] #[])),(1, .ptr 5 0),(2, .ptr 6 0),(3, .ptr 4 0),(5,I k)],[.code (cI [1,0,0]), .inLoop (cI [1,0,0]), .inBlock 0],{}⟩],hp⟩
noncomputable abbrev lY (lp:Nat) (k:Int) (b2:Bool) (y:Int):List (Option SV):=slo 28 [(0, .val (.func (.yield lp) #[] #[])),(1, .ptr 5 0),(2, .ptr 6 0),(3, .ptr 4 0),(5,I k),(22,B b2),(23, .val (.func (.yield lp) #[] #[])),(24,I y)]
noncomputable abbrev itY (lp:Nat) (k:Int) (b2:Bool) (y:Int) (hp:List (Option Vw)):SC:=
 ⟨[⟨fI,lY lp k b2 y, .inRegion (oI [1,0,0,0,0,1,0]) [5,6,7]:: .code (cI [1,0,0,0,0,1,1])::kI,{}⟩],hp⟩
noncomputable abbrev itE (hp:List (Option Vw)):SC:=⟨[⟨fI,slo 28 [], .code .ret::kI,{}⟩],hp⟩
noncomputable abbrev rdB (lp:Nat) (y:Int) (hp:List (Option Vw)):SC:=
 ⟨[⟨fG,slo 36 [(1, .ptr 0 0),(2, .ptr 1 0),(3, .ptr 2 0),(5, .ptr 3 0),(6,I y)],[.beginRound, .code (cG [1,1,1,0,1,0,1])],⟨some lp,[],false⟩⟩],hp⟩
noncomputable abbrev rdC (lp:Nat) (y:Int) (hp:List (Option Vw)):SC:=
 ⟨[⟨fG,slo 36 [(1, .ptr 0 0),(2, .ptr 1 0),(3, .ptr 2 0),(5, .ptr 3 0),(6,I y)],[.code (cG [1,1,1,0,1,0,1])],⟨some lp,[],false⟩⟩],hp⟩
noncomputable abbrev rdX (lp:Nat) (hp:List (Option Vw)):SC:=⟨[⟨fG,slo 36 [],[.code (.exit 0), .inBlock 1],⟨some lp,[],false⟩⟩],hp⟩
noncomputable abbrev rdE (lp:Nat) (hp:List (Option Vw)):SC:=⟨[⟨fG,slo 36 [],[],⟨some lp,[],false⟩⟩],hp⟩
noncomputable abbrev enA (D:Nat) (pd:Option Code) (hp:List (Option Vw)):SC:=⟨[⟨fG,lGf,(pd.map Item.code).toList++kG,rx D⟩],hp⟩
theorem gd_round {X:Cx} {a1 a2 a3 a4 a5 a6 a7:Int} {a8 a9 a10:Bool} {a11 A b:Int} {D lp n:Nat} {r:Loop} {g:Nat→Int} {y:Int} (hX:InX X Tryz.prog GL 10) (hn:n≤1000)
  (q:Nat→Int) (hq: ∀ k,k<(n+1)→q k=if k<n then(g k)else y)
  (kX:1≤n→btw a5 a6 y=false→Ok X (rdX lp (gV2 (gT a1 a2 a3 a4 a5 a6 a7 a8 a9 a10 a11) A b D lp r (n+1) q)))
  (kE:n=0∨btw a5 a6 y=true→Ok X (rdE lp (gV2 (gT a1 a2 a3 a4 a5 a6 a7 a8 a9 a10 a11) A b D lp r (n+1) q))):
  Ok X (rdC lp y (gV (gT a1 a2 a3 a4 a5 a6 a7 a8 a9 a10 a11) A b D lp r n g)):=by
 have h1:(n+1)*8≤140737488355328:=by omega
 refine hX.go [q_ (show ∀ k,k<1→(fun i=>[I y]) k=[[I y]].getD k []from by intro k hk;match k,hk with|0,_=>rfl|k+1,hk=>omega),q_ (re 1),q_ (re n),q_ h1,q_ (show ∀ k,k<n+1→(fun i=>[I (q i)]) k=if k<n then(fun i=>[I (g i)]) k else(fun i=>[I y]) (k-n)from fun k hk=>by
   have e0:=hq k hk
   by_cases c:k<n
   ·rw[if_pos c]at e0⊢;simp only[e0]
   ·rw[if_neg c]at e0⊢;simp only[e0]),h_ [.row (fun i=>[I y]), .row (fun i=>[I (q i)])]] ?_
 have h2: ¬(((n+1):Nat):Int)>1202:=by omega
 refine hX.go [f_ (df h2)] ?_
 by_cases h3:(((n+1):Nat):Int)>1
 ·refine hX.go [n_ 3 (t_ (dt h3)),c_ [] (dBtw a1 a2 a3 a4 a5 a6 a7 a8 a9 a10 a11 y),t_ (dt h3),t_ (dt h3)] ?_
  rcases bcase (btw a5 a6 y)with h4|h4
  ·exact hX.h 3 [f_ (nf h4)] (oldM 12) (kE (.inr h4))
  ·exact hX.h 1 [t_ (nt h4)] (oldM 12) (kX (by omega) h4)
 ·exact hX.h 9 [n_ 5 (f_ (df h3)),f_ rf] (oldM 12) (kE (.inl (by omega)))
theorem gd_loop {X:Cx} {n0:Nat} (hX:InX X Tryz.prog GL n0) {a1 a2 a3 a4 a5 a6 a7:Int} {a8 a9 a10:Bool} {a11 A b:Int} {T:Array Value} {θ:Th} {D lp N:Nat} (st:Nat→Int×Int)
  (hst: ∀ k:Nat,st k=mv A ((k:Int)*b) a10) (hb: -12≤b∧b≤12) (hN:N≤1000) (hT: ∀ θ',Same 7 θ θ'→TOk θ' lGf T) (hold:Same X.n0 X.θ0 θ) (hn:X.n0≤7)
  (hE: ∀ pd g,(pd=none∨pd=some (.exit 0))→(∀ i,i<N→g i=(st i).1)→Ok X (enA D pd (gV (gT a1 a2 a3 a4 a5 a6 a7 a8 a9 a10 a11) A b D lp (lpR T D .exhausted pd) N g))):
  ∀ (f k:Nat) (g:Nat→Int),k+f=1300→cntG st a5 a6 f k=N→(∀ i,i<k→g i=(st i).1)→
    Ok (X.inn θ 7 (mkFr (rx D) fG T (.inRangeFunc lp::kG)::X.cs)) (itH lp k (gV (gT a1 a2 a3 a4 a5 a6 a7 a8 a9 a10 a11) A b D lp (lpR T D .ready none) k g)):=by
 intro f
 induction f with
 |zero=>intro k g h1 h2 _;exact absurd h2 (by unfold cntG;omega)
 |succ f ih=>
  intro k g hk hc hg
  have hkN:k≤N:=by rw[←hc];exact(cntG_ok (f+1) k).1
  have hX1:=hX.inn θ 7 (mkFr (rx D) fG T (.inRangeFunc lp::kG)::X.cs)
  have m1:(k:Int)*b≤(k:Int)*12:=Int.mul_le_mul_of_nonneg_left hb.2 (by omega)
  have m2:(k:Int)*(-12)≤(k:Int)*b:=Int.mul_le_mul_of_nonneg_left hb.1 (by omega)
  have h0:Ir ((k:Int)*b):=by simp only[Ir,InR];omega
  have hk2:=hst k
  refine hX1.go [q_ h0,c_ [] (cMove A ((k:Int)*b) a10)] ?_
  by_cases h1:(mv A ((k:Int)*b) a10).2=0
  ·have hz:(st k).2=0:=by rw[hk2];exact h1
   have hbf:=bne_eq_false_iff_eq.2 h1
   refine hX1.h 2 [f_ hbf,f_ hbf] (oldM 10) (show Ok _ (itY lp k ((mv A ((k:Int)*b) a10).2 !=0) (mv A ((k:Int)*b) a10).1 (gV (gT a1 a2 a3 a4 a5 a6 a7 a8 a9 a10 a11) A b D lp (lpR T D .ready none) k g))from ?_)
   refine Ok.yield (tl:=8) (lr:=lGf) [.b false] (qs:=[((mv A ((k:Int)*b) a10).2 !=0)=false]) (vs:=[I (mv A ((k:Int)*b) a10).1]) (dst:=some 25) (by kernel_rfl) ⟨hbf,trivial⟩ rfl rfl hT ?_
   intro θ2 T2 hT2 hs2 hn2
   have hX2:=hX1.inn θ2 10 (mkFr {} fI T2 (.inRegion (oI [1,0,0,0,0,1,0]) (5::[6,7]):: .code (cI [1,0,0,0,0,1,1])::kI)::(mkFr (rx D) fG T (.inRangeFunc lp::kG)::X.cs))
   refine hX2.h 3 [] (oldM 10) (show Ok _ (rdB lp (mv A ((k:Int)*b) a10).1 (gV (gT a1 a2 a3 a4 a5 a6 a7 a8 a9 a10 a11) A b D lp (lpR T D .ready none) k g))from ?_)
   refine Ok.beginRound (tl:=8) (r:=lpR T D .ready none) rfl rfl ?_
   refine gd_round (r:=lpR T D .busy none) hX2 (by omega) (fun i=>(st i).1) (fun i hi=> ?_) (fun c1 c2=> ?_) (fun c1=> ?_)
   ·by_cases c:i<k
    ·rw[if_pos c];exact(hg i c).symm
    ·rw[if_neg c,show i=k by omega,hk2]
   ·refine Ok.endRound (X:=X.inn θ 7 _) (tl:=8) (r:=lpR T D .busy none) (j:=some (.exit 0)) (dst:=some 25) (.exit rfl) hT2 hs2 hn2 (by kernel_rfl) rfl ?_
    refine hX1.h 4 [f_ hbf,f_ hbf,t_ rt] [.old 0, .old 1, .old 2, .old 3, .old 4, .old 5, .old 6, .old 7, .old 8, .old 11] (show Ok _ (itE (gV (gT a1 a2 a3 a4 a5 a6 a7 a8 a9 a10 a11) A b D lp (lpR T D .done (some (.exit 0))) (k+1) (fun i=>(st i).1)))from ?_)
    have hN':N=k+1:=by rw[←hc];exact cntG_stop hz c1 (by rw[hk2];exact c2)
    refine Ok.iterEnd (tl:=8) (r:=lpR T D .done (some (.exit 0))) (F:=Tryz.f139) (.inr ⟨_,rfl⟩) (by rw[show(X.P)=Tryz.prog from hX.P];kernel_rfl) (by kernel_rfl) hT hold hn rfl (fun e=>by cases e) ?_
    rw[←hN']
    exact hE _ _ (.inr rfl) (fun i hi=>rfl)
   ·refine Ok.endRound (X:=X.inn θ 7 _) (tl:=8) (r:=lpR T D .busy none) (j:=none) (dst:=some 25) .off hT2 hs2 hn2 (by kernel_rfl) rfl ?_
    have h5:Ir ((k:Int)+1):=by simp only[Ir,InR];omega
    refine hX1.h 12 [f_ hbf,f_ hbf,f_ rf,q_ h5] [.old 0, .old 1, .old 2, .old 3, .old 4, .old 5, .old 6, .old 7, .old 8, .old 11] (show Ok _ (itH lp ((k:Int)+1) (gV (gT a1 a2 a3 a4 a5 a6 a7 a8 a9 a10 a11) A b D lp (lpR T D .ready none) (k+1) (fun i=>(st i).1)))from ?_)
    exact ih (k+1) _ (by omega) (by rw[←hc];exact(cntG_on hz (by rw[hk2];exact c1)).symm) (fun i hi=>rfl)
  ·have hz:(st k).2≠0:=by rw[hk2];exact h1
   refine hX1.h 7 [n_ 5 (t_ (bne_iff_ne.2 h1)),t_ rt] (oldM 10) (show Ok _ (itE (gV (gT a1 a2 a3 a4 a5 a6 a7 a8 a9 a10 a11) A b D lp (lpR T D .ready none) k g))from ?_)
   have hN':N=k:=by rw[←hc];exact cntG_no hz
   refine Ok.iterEnd (tl:=8) (r:=lpR T D .ready none) (F:=Tryz.f139) (.inr ⟨_,rfl⟩) (by rw[show(X.P)=Tryz.prog from hX.P];kernel_rfl) (by kernel_rfl) hT hold hn rfl (fun e=>by cases e) ?_
   rw[←hN']
   rw[←hN']at hg
   exact hE _ _ (.inl rfl) hg
noncomputable abbrev enB (D:Nat) (hp:List (Option Vw)):SC:=⟨[⟨fG,slo 36 [(1, .ptr 0 0),(2, .ptr 1 0),(3, .ptr 2 0),(5, .ptr 3 0)],[.code (cG [1,1,1,1])],rx D⟩],hp⟩
noncomputable abbrev cR (p:List Nat):Code:=bodyAt Tryz.f109 p
noncomputable abbrev revH (D n:Nat) (x1 x2:Int) (hp:List (Option Vw)):SC:=
 ⟨[⟨109,slo 28 [(0, .sl 9 n),(2,I x1),(3,I x2)],[.code (cR [1,0,0]), .inLoop (cR [1,0,0]), .inBlock 0],{}⟩,⟨fG,slo 36 [(2, .ptr 1 0),(3, .ptr 2 0),(5, .ptr 3 0),(33, .sl 9 n)],[.inRegion (opsAt Tryz.f78 [1,1,1,1,0,1,0]) [1], .code (cG [1,1,1,1,1])],rx D⟩],hp⟩
abbrev gV3 (T:List SV) (A b:Int) (D lp:Nat) (r:Loop) (n:Nat) (g:Nat→Int):List (Option Vw):=
 [some (.box true T),some (.box true [.sl 9 n]),some (.box true [I 0]),some (.box true [.sl 9 n]),some (.box true T),some (.box true [I A]),some (.box true [I b]),some (.obj true D (.deferred (some []))),some (.obj true lp (.loop r)),ro n g]
noncomputable abbrev enZ (D:Nat) (hp:List (Option Vw)):SC:=⟨[⟨fG,slo 36 [(2, .ptr 1 0),(3, .ptr 2 0)],[.code .ret],rx D⟩],hp⟩
theorem gd_rev {X:Cx} (hX:InX X Tryz.prog GL 0) {a1 a2 a3 a4 a5 a6 a7:Int} {a8 a9 a10:Bool} {a11 A b:Int} {D lp n:Nat} {r:Loop} {g:Nat→Int} (hn:n≤1000)
  (K: ∀ c:Nat→Int,(∀ k,k<n→c k=g (n-1-k))→Ok X (enZ D (gV3 (gT a1 a2 a3 a4 a5 a6 a7 a8 a9 a10 a11) A b D lp r n c))): ∀ (f i:Nat) (x1 x2:Int) (c:Nat→Int),x1=(i:Int)→x2=(n:Int)-1-(i:Int)→n≤2*i+f→2*i≤n+1→(∀ k,k<n→c k=if k<i∨n≤k+i then g (n-1-k)else g k)→
   Ok X (revH D n x1 x2 (gV (gT a1 a2 a3 a4 a5 a6 a7 a8 a9 a10 a11) A b D lp r n c)):=by
 intro f
 induction f with
 |zero=>
  intro i x1 x2 c e1 e2 hf hi hc
  have h0: ¬x1<x2:=by omega
  refine hX.h 17 [f_ (df h0)] (oldM 10) (K c fun k hk=> ?_)
  rw[hc k hk];split
  ·rfl
  ·rw[show n-1-k=k by omega]
 |succ f ih=>
  intro i x1 x2 c e1 e2 hf hi hc
  by_cases h0:x1<x2
  ·have h1:(0:Int)≤x2∧x2<((n:Nat):Int):=by omega
   have h2:(0:Int)≤x1∧x1<((n:Nat):Int):=by omega
   have h5:Ir (x1+1):=by simp only[Ir,InR];omega
   have h6:Ir (x2-1):=by simp only[Ir,InR];omega
   obtain⟨q1,h3⟩: ∃ q1:Nat→Int, ∀ k,k<n→q1 k=if k=x1.toNat then(c x2.toNat)else(c k):=⟨_,fun k _=>rfl⟩
   obtain⟨q2,h4⟩: ∃ q2:Nat→Int, ∀ k,k<n→q2 k=if k=x2.toNat then(c x1.toNat)else(q1 k):=⟨_,fun k _=>rfl⟩
   refine hX.h 25 [t_ (dt h0),q_ h1,q_ (re n),q_ h1,q_ h2,q_ (re n),q_ h2,q_ h2,q_ (re n),q_ (show(.sl 9 n:SV)= .sl 9 n from rfl),q_ (re (I x2)),q_ h2,q_ (show ∀ k,k<n→(fun i=>[I (q1 i)]) k=if k=x1.toNat then putRow ((fun i=>[I (c i)]) k) 0 [I (c x2.toNat)]else(fun i=>[I (c i)]) k from fun k hk=>by
    have e0:=h3 k hk
    by_cases c:k=x1.toNat
    ·rw[if_pos c]at e0⊢;simp only[e0];try rfl
    ·rw[if_neg c]at e0⊢;simp only[e0]),q_ (show(.sl 9 n:SV)= .sl 9 n from rfl),q_ (re (I x2)),q_ h1,q_ (re n),q_ h1,q_ (show ∀ k,k<n→(fun i=>[I (q2 i)]) k=if k=x2.toNat then putRow ((fun i=>[I (q1 i)]) k) 0 [I (c x1.toNat)]else(fun i=>[I (q1 i)]) k from fun k hk=>by
    have e0:=h4 k hk
    by_cases c:k=x2.toNat
    ·rw[if_pos c]at e0⊢;simp only[e0];try rfl
    ·rw[if_neg c]at e0⊢;simp only[e0]),q_ h5,q_ h6,h_ [.draw 13 [2,3] 1, .row (fun i=>[I (q1 i)]), .row (fun i=>[I (q2 i)])]] (oldM 10) (show Ok X (revH D n (x1+1) (x2-1) (gV (gT a1 a2 a3 a4 a5 a6 a7 a8 a9 a10 a11) A b D lp r n q2))from ih (i+1) _ _ q2 (by omega) (by omega) (by omega) (by omega) (fun k hk=> ?_))
   rw[h4 k hk]
   by_cases d1:k=x2.toNat
   ·rw[if_pos d1,hc _ (by omega),if_neg (by omega),if_pos (by omega),show n-1-k=x1.toNat by omega]
   ·rw[if_neg d1,h3 k hk]
    by_cases d2:k=x1.toNat
    ·rw[if_pos d2,hc _ (by omega),if_neg (by omega),if_pos (by omega),show n-1-k=x2.toNat by omega]
    ·rw[if_neg d2,hc k hk]
     by_cases d3:k<i∨n≤k+i
     ·rw[if_pos d3,if_pos (by omega)]
     ·rw[if_neg d3,if_neg (by omega)]
  ·refine hX.h 17 [f_ (df h0)] (oldM 10) (K c fun k hk=> ?_)
   rw[hc k hk];split
   ·rfl
   ·rw[show n-1-k=k by omega]
theorem gd_end {X:Cx} (hX:InX X Tryz.prog GL 0) {a1 a2 a3 a4 a5 a6 a7:Int} {a8 a9 a10:Bool} {a11 A b:Int} {D lp n:Nat} {r:Loop} {g:Nat→Int} (hn:n≤1000) (hn1:1≤n)
  (K: ∀ c:Nat→Int,(∀ k,k<n→c k=g (if a8=true then n-1-k else k))→Ok X (enZ D (gV3 (gT a1 a2 a3 a4 a5 a6 a7 a8 a9 a10 a11) A b D lp r n c))) (pd:Option Code) (hp:pd=none∨pd=some (.exit 0)):
  Ok X (enA D pd (gV (gT a1 a2 a3 a4 a5 a6 a7 a8 a9 a10 a11) A b D lp r n g)):=by
 have key:Ok X (enB D (gV (gT a1 a2 a3 a4 a5 a6 a7 a8 a9 a10 a11) A b D lp r n g)):=by
  rcases bcase a8 with h0|h0
  ·have h1:Ir (((n:Nat):Int)-1):=by simp only[Ir,InR];omega
   refine hX.h 20 [t_ h0,q_ h1,i_] (oldM 10) (show Ok X (revH D n 0 (((n:Nat):Int)-1) (gV (gT a1 a2 a3 a4 a5 a6 a7 a8 a9 a10 a11) A b D lp r n g))from gd_rev (g:=g) hX hn (fun c hc=>K c fun k hk=> ?_) n 0 _ _ g rfl (by omega) (by omega) (by omega) (fun k hk=> ?_))
   ·rw[if_pos h0];exact hc k hk
   ·rw[if_neg (by omega)]
  ·exact hX.h 14 [f_ h0] (oldM 10) (K g fun k hk=>by rw[if_neg (by rw[h0];decide)])
 rcases hp with rfl|rfl
 ·exact hX.h 1 [] (oldM 10) key
 ·exact hX.h 1 [] (oldM 10) key
def gcN (a1 a2 a3 a4 a5 a6 a7:Int) (a8 a10:Bool) (a11:Int):Nat:=if chk a1 a2 a3 a4 a5 a6 a7 a11=0 then gN a5 a6 a7 a8 a10 else 0
def gcV (s e mo:Int) (back eom:Bool) (i:Nat):Int:=(stp s e mo back eom (if back=true then gN s e mo back eom-1-i else i)).1
theorem gd_start {X:Cx} {a1 a2 a3 a4 a5 a6 a7:Int} {a8 a9 a10:Bool} {a11 A b:Int} (hX:IsFin X Tryz.prog GL fG [] (.tup [.sl 0 (gN a5 a6 a7 a8 a10),I 0]) [ro (gN a5 a6 a7 a8 a10) (gcV a5 a6 a7 a8 a10)])
  (hL:Loan a5 a6 a7) (hs:a6-a5≤6200*a7) (hst: ∀ k:Nat,stp a5 a6 a7 a8 a10 k=mv A ((k:Int)*b) a10) (hb: -12≤b∧b≤12):
  Ok X ⟨[⟨fG,lGf, .code (.rangeFunc (.tmp 13) #[14] (cG [1,1,1,0,1,0,0]) (cG [1,1,1,0,1,0,1]))::kG,{}⟩],
   [some (.box true (gT a1 a2 a3 a4 a5 a6 a7 a8 a9 a10 a11)),some (.box true [.val (.slice none 0 0)]),some (.box true [I 0]),some (.box true [.val (.slice none 0 0)]),some (.box true (gT a1 a2 a3 a4 a5 a6 a7 a8 a9 a10 a11)),some (.box true [I A]),some (.box true [I b])]⟩:=by
 have hN:=gN_le (back:=a8) (eom:=a10) hL hs
 refine Ok.rangeFunc (gf:=fI) (bs:=[.ptr 5 0, .ptr 6 0, .ptr 4 0]) (F:=Tryz.f139) (b:=cI []) (by kernel_rfl) (by rw[show(X.P)=Tryz.prog from hX.P];kernel_rfl) (by kernel_rfl) (by kernel_rfl) ?_
 intro θ T D lp hT hold hn
 have hX1:=hX.inX.inn θ 7 (mkFr (rx D) fG T (.inRangeFunc lp::kG)::X.cs)
 refine hX1.h 6 [] [.old 0, .old 1, .old 2, .old 3, .old 4, .old 5, .old 6, .old 7, .old 8, .nil 1] (show Ok _ (itH lp ((0:Nat):Int) (gV (gT a1 a2 a3 a4 a5 a6 a7 a8 a9 a10 a11) A b D lp (lpR T D .ready none) 0 (fun _=>0)))from ?_)
 refine gd_loop hX.inX (N:=gN a5 a6 a7 a8 a10) (stp a5 a6 a7 a8 a10) hst hb (by omega) hT hold hn (fun pd g hpd hg=> ?_) 1300 0 _ rfl rfl (fun i hi=>absurd hi (Nat.not_lt_zero _))
 refine gd_end hX.inX (by omega) hN.1 (fun c hc=> ?_) pd hpd
 refine Ok.leave (tD:=7) (hp0:=[]) (IsFin.same hX (new':=[ro (gN a5 a6 a7 a8 a10) c]) ⟨⟨rfl,rfl,rfl,rfl,fun i hi=> ?_⟩,trivial⟩) [9] rfl (by kernel_rfl)
 have:c i=gcV a5 a6 a7 a8 a10 i:=by
  rw[hc i hi];unfold gcV
  by_cases h:a8=true
  ·rw[if_pos h];exact hg _ (by omega)
  ·rw[if_neg h];exact hg _ hi
 show[I (c i)]=[I (gcV a5 a6 a7 a8 a10 i)]
 rw[this]
theorem dGrid (a1 a2 a3 a4 a5 a6 a7:Int) (a8 a9 a10:Bool) (a11:Int) (hs:chk a1 a2 a3 a4 a5 a6 a7 a11=0→a6-a5≤6200*a7):
  S 78 [.agg [I a1,I a2,I a3,I a4,I a5,I a6,I a7,B a8,B a9,B a10,I a11]] [] (.tup [.sl 0 (gcN a1 a2 a3 a4 a5 a6 a7 a8 a10 a11),I (chk a1 a2 a3 a4 a5 a6 a7 a11)]) [ro (gcN a1 a2 a3 a4 a5 a6 a7 a8 a10 a11) (gcV a5 a6 a7 a8 a10)]:=by
 refine SCall.st fun X hX=> ?_
 refine hX.go [c_ [] (tCheck a1 a2 a3 a4 a5 a6 a7 a8 a9 a10 a11)] ?_
 by_cases h0:(chk a1 a2 a3 a4 a5 a6 a7 a11)=0
 ·have hL:=chk_loan h0
  obtain⟨l1,l2,l3,l4,l5⟩:=hL
  rw[show gcN a1 a2 a3 a4 a5 a6 a7 a8 a10 a11=gN a5 a6 a7 a8 a10 from if_pos h0,h0]at hX
  refine hX.go [f_ (bne_eq_false_iff_eq.2 h0),q_ (show(.ptr 4 6:SV)= .ptr 4 6 from rfl),q_ (re (I a7)),q_ (show(.ptr 4 6:SV)= .ptr 4 6 from rfl),q_ (re (I a7)),i_,h_ [.draw 6 [2,3] 1]] ?_
  rcases bcase a8 with h1|h1
  ·have h2:Ir (0-a7):=by simp only[Ir,InR];omega
   refine hX.h 12 [t_ h1,q_ h2,q_ (show(.ptr 4 6:SV)= .ptr 4 6 from rfl),q_ (re (I a7)),q_ (show(I (0-a7):SV)=I (0-a7)from rfl),q_ h2,q_ (show(.ptr 4 6:SV)= .ptr 4 6 from rfl),q_ (re (I a7)),q_ (show(I (0-a7):SV)=I (0-a7)from rfl),q_ h2,h_ [.draw 5 [2,3,4] 1]] (oldM 7) (gd_start (a1:=a1) (a2:=a2) (a3:=a3) (a4:=a4) (a9:=a9) (a11:=a11) (A:=a6) (b:=0-a7) hX ⟨l1,l2,l3,l4,l5⟩ (hs h0) (fun k=> ?_) (by omega))
   unfold stp;rw[if_pos h1,Int.zero_sub]
  ·refine hX.h 10 [f_ h1] (oldM 7) (gd_start (a1:=a1) (a2:=a2) (a3:=a3) (a4:=a4) (a9:=a9) (a11:=a11) (A:=a5) (b:=a7) hX ⟨l1,l2,l3,l4,l5⟩ (hs h0) (fun k=> ?_) (by omega))
   unfold stp;rw[if_neg (by rw[h1];decide)]
 ·rw[show gcN a1 a2 a3 a4 a5 a6 a7 a8 a10 a11=0 from if_neg h0]at hX
  exact(IsFin.nilsl hX).e [t_ (bne_iff_ne.2 h0)]
end Go.Proofs.YtelidogcomffkaaGreatDoor
