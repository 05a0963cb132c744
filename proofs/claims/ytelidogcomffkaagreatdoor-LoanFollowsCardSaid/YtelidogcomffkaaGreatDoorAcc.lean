import Derived.Test.YtelidogcomffkaaGreatDoorCnt
import Derived.Test.YtelidogcomffkaaGreatDoorProg
import Derived.KernelRfl
import Derived.Laws.Externs
set_option linter.unusedSectionVars false
set_option linter.unusedSimpArgs false
set_option linter.unusedVariables false
set_option maxRecDepth 100000
namespace Go.Proofs.YtelidogcomffkaaGreatDoor
open Go Go.Sx
variable [Env]
def rightB (n d:Int):Bool:=decide (0≤n∧n≤4611686018427387904∧1≤d∧d≤4611686018427387904∧Nat.gcd n.toNat d.toNat=1)
theorem ratio_Right_w {a1 a2:Int} {res:SV} (H:(a1≥0→(a1≤4611686018427387904→(a2≥1→(a2≤4611686018427387904→U64 a1∧U64 a2∧ ∃ r3:Int,S 200 [N .u64 a1,N .u64 a2] [] (N .u64 r3) []∧B (r3==1)=res)∧(¬a2≤4611686018427387904→B false=res))∧(¬a2≥1→B false=res))∧(¬a1≤4611686018427387904→B false=res))∧(¬a1≥0→B false=res)):
  S 156 [.agg [I a1,I a2]] [] res []:=by
 refine SCall.st fun X hX=> ?_
 obtain⟨H1,H2⟩:=H
 by_cases h0:a1≥0
 ·obtain⟨H1,H2⟩:=H1 h0
  refine hX.go [t_ (dt h0),t_ (dt h0),t_ (dt h0),t_ (dt h0)] ?_
  by_cases h1:a1≤4611686018427387904
  ·obtain⟨H1,H2⟩:=H1 h1
   refine hX.go [t_ (dt h1),t_ (dt h1),t_ (dt h1),t_ (dt h1)] ?_
   by_cases h2:a2≥1
   ·obtain⟨H1,H2⟩:=H1 h2
    refine hX.go [t_ (dt h2),t_ (dt h2),t_ (dt h2),t_ (dt h2)] ?_
    by_cases h3:a2≤4611686018427387904
    ·obtain⟨h4,h5,r3,h6,rfl⟩:=H1 h3
     exact hX.e [t_ (dt h3),t_ (dt h3),t_ (dt h3),q_ h4,t_ (dt h3),t_ (dt h3),t_ (dt h3),q_ h5,t_ (dt h3),c_ [] h6,t_ (dt h3),t_ (dt h3)]
    ·obtain rfl:=H2 h3
     exact hX.e [f_ (df h3),f_ (df h3),f_ (df h3),f_ (df h3),f_ (df h3),f_ (df h3),f_ (df h3),f_ (df h3),f_ (df h3)]
   ·obtain rfl:=H2 h2
    exact hX.e [f_ (df h2),f_ (df h2),f_ (df h2),f_ (df h2),f_ rf,f_ rf,f_ rf,f_ rf,f_ rf,f_ rf,f_ rf,f_ rf,f_ rf]
  ·obtain rfl:=H2 h1
   exact hX.e [f_ (df h1),f_ (df h1),f_ (df h1),f_ (df h1),f_ rf,f_ rf,f_ rf,f_ rf,f_ rf,f_ rf,f_ rf,f_ rf,f_ rf,f_ rf,f_ rf,f_ rf,f_ rf]
 ·obtain rfl:=H2 h0
  exact hX.e [f_ (df h0),f_ (df h0),f_ (df h0),f_ (df h0),f_ rf,f_ rf,f_ rf,f_ rf,f_ rf,f_ rf,f_ rf,f_ rf,f_ rf,f_ rf,f_ rf,f_ rf,f_ rf,f_ rf,f_ rf,f_ rf,f_ rf]
theorem cRight (n d:Int):S 156 [.agg [I n,I d]] [] (B (rightB n d)) []:=by
 have hf: ¬(0≤n∧n≤4611686018427387904∧1≤d∧d≤4611686018427387904)→rightB n d=false:=fun h=>decide_eq_false fun q=>h ⟨q.1,q.2.1,q.2.2.1,q.2.2.2.1⟩
 refine ratio_Right_w ⟨fun h1=>⟨fun h2=>⟨fun h3=>⟨fun h4=> ?_,fun h=>by rw[hf (by omega)]⟩,fun h=>by rw[hf (by omega)]⟩,fun h=>by rw[hf (by omega)]⟩,fun h=>by rw[hf (by omega)]⟩
 have hg:=rGcd n.toNat d.toNat
 rw[show((n.toNat:Nat):Int)=n by omega,show((d.toNat:Nat):Int)=d by omega]at hg
 refine⟨by simp only[InR];omega,by simp only[InR];omega,_,hg, ?_⟩
 rw[show(((Nat.gcd n.toNat d.toNat:Nat):Int)==1)=rightB n d by
  unfold rightB
  by_cases h:Nat.gcd n.toNat d.toNat=1
  ·rw[decide_eq_true ⟨h1,h2,h3,h4,h⟩,h];rfl
  ·rw[decide_eq_false (fun q=>h q.2.2.2.2),beq_eq_false_iff_ne];omega]
theorem right_q {q:Rat} (h:0≤q.num) (h1:q.num≤4611686018427387904) (h2:q.den≤4611686018427387904):rightB q.num (q.den:Int)=true:=by
 have:=q.den_pos
 refine decide_eq_true ⟨h,h1,by omega,by omega, ?_⟩
 have:=q.reduced
 rw[show q.num.toNat=q.num.natAbs by omega,Int.toNat_natCast]
 exact this
end Go.Proofs.YtelidogcomffkaaGreatDoor
namespace Go.Sx
open Go.RowKit
theorem IsFin.nilsl {X:Cx} {P:Program} {gl:List (Nat×Vw)} {f:FuncId} {hp0:List (Option Vw)} {el:TypeId} {sz:Nat} {g:Nat→List SV} {e:SV}
  (hX:IsFin X P gl f hp0 (.tup [.sl hp0.length 0,e]) [some (.row true el 0 sz g)]):IsFin X P gl f hp0 (.tup [.val (.slice none 0 0),e]) []:=by
 obtain⟨h1,h2,h3,hce,h4,h5,h6,h7,h8⟩:=hX
 refine⟨h1,h2,h3,hce,h4,h5,h6,h7,fun r w' hb hr=>h8 r w' hb ?_⟩
 obtain⟨nw,hn⟩:=hr
 refine⟨fun _=>⟨none,0,sz⟩,fun θ' hs hk=> ?_⟩
 obtain⟨e1,e2⟩:=hn θ' hs (fun k hk=>absurd hk (Nat.not_lt_zero _))
 have eL:θ' hp0.length=⟨none,0,sz⟩:=hk 0 Nat.one_pos
 rw[List.append_nil]at e2
 refine⟨?_,⟨fun t v hv=> ?_,fun t t' v v' hv hv' hne ho hl a a' ha ha'=> ?_⟩⟩
 ·rw[e1]
  simp only[den,denL,eL]
 ·rcases Nat.lt_or_ge t hp0.length with c|c
  ·rw[List.getElem?_append_left c]at hv
   exact e2.vw t v hv
  ·rw[List.getElem?_append_right c]at hv
   have:t=hp0.length:=by
    rcases Nat.eq_or_lt_of_le c with q|q
    ·exact q.symm
    ·rw[List.getElem?_eq_none (by simp only[List.length_cons,List.length_nil];omega)]at hv;cases hv
   subst this
   rw[Nat.sub_self]at hv
   simp only[List.getElem?_cons_zero,Option.some.injEq]at hv
   subst hv
   rw[eL]
   exact⟨rfl,Nat.le_refl _,⟨.inl rfl,(fun a ha=>by cases ha)⟩,fun i hi=>absurd hi (Nat.not_lt_zero _),(fun a ha=>by cases ha),fun _=> .inl ⟨rfl,rfl⟩⟩
 ·have out: ∀ (s:Nat) (u:Vw) (b:_),(hp0++[some (Vw.row true el 0 sz g)])[s]? =some (some u)→(θ' s).base=some b→hp0[s]? =some (some u):=fun s u b hs hb=>by
   rcases Nat.lt_or_ge s hp0.length with c|c
   ·rwa [List.getElem?_append_left c]at hs
   ·exfalso
    have:s=hp0.length:=by
     rcases Nat.eq_or_lt_of_le c with q|q
     ·exact q.symm
     ·rw[List.getElem?_append_right c,List.getElem?_eq_none (by simp only[List.length_cons,List.length_nil];omega)]at hs;cases hs
    subst this
    rw[eL]at hb;cases hb
  exact e2.ne t t' v v' (out t v a hv ha) (out t' v' a' hv' ha') hne ho hl a a' ha ha'
theorem IsFin.nil1 {X:Cx} {P:Program} {gl:List (Nat×Vw)} {f:FuncId} {hp0 new:List (Option Vw)} {el:TypeId} {sz:Nat} {g:Nat→List SV} {res res':SV}
  (hX:IsFin X P gl f hp0 res (new++[some (.row true el 0 sz g)])) (hres: ∀ θ':Th,θ' (hp0.length+new.length)=⟨none,0,sz⟩→den θ' res'=den θ' res):IsFin X P gl f hp0 res' new:=by
 obtain⟨h1,h2,h3,hce,h4,h5,h6,h7,h8⟩:=hX
 refine⟨h1,h2,h3,hce,h4,h5,h6,h7,fun r w' hb hr=>h8 r w' hb ?_⟩
 obtain⟨nw,hn⟩:=hr
 refine⟨fun k=>if k<new.length then nw k else⟨none,0,sz⟩,fun θ' hs hk=> ?_⟩
 obtain⟨e1,e2⟩:=hn θ' hs (fun k hk'=>(hk k (by rw[List.length_append];show k<new.length+1;omega)).trans (if_pos hk'))
 have eL:θ' (hp0.length+new.length)=⟨none,0,sz⟩:=(hk new.length (by rw[List.length_append];show new.length<new.length+1;omega)).trans (if_neg (Nat.lt_irrefl _))
 rw[←List.append_assoc]
 have hL:(hp0++new).length=hp0.length+new.length:=List.length_append
 refine⟨?_,⟨fun t v hv=> ?_,fun t t' v v' hv hv' hne ho hl a a' ha ha'=> ?_⟩⟩
 ·rw[e1,hres θ' eL]
 ·rcases Nat.lt_or_ge t (hp0++new).length with c|c
  ·rw[List.getElem?_append_left c]at hv
   exact e2.vw t v hv
  ·rw[List.getElem?_append_right c]at hv
   have:t=(hp0++new).length:=by
    rcases Nat.eq_or_lt_of_le c with q|q
    ·exact q.symm
    ·rw[List.getElem?_eq_none (by simp only[List.length_cons,List.length_nil];omega)]at hv;cases hv
   subst this
   rw[Nat.sub_self]at hv
   simp only[List.getElem?_cons_zero,Option.some.injEq]at hv
   subst hv
   rw[hL,eL]
   exact⟨rfl,Nat.le_refl _,⟨.inl rfl,(fun a ha=>by cases ha)⟩,fun i hi=>absurd hi (Nat.not_lt_zero _),(fun a ha=>by cases ha),fun _=> .inl ⟨rfl,rfl⟩⟩
 ·have out: ∀ (s:Nat) (u:Vw) (b:_),((hp0++new)++[some (Vw.row true el 0 sz g)])[s]? =some (some u)→(θ' s).base=some b→(hp0++new)[s]? =some (some u):=fun s u b hs hb=>by
   rcases Nat.lt_or_ge s (hp0++new).length with c|c
   ·rwa [List.getElem?_append_left c]at hs
   ·exfalso
    have:s=(hp0++new).length:=by
     rcases Nat.eq_or_lt_of_le c with q|q
     ·exact q.symm
     ·rw[List.getElem?_append_right c,List.getElem?_eq_none (by simp only[List.length_cons,List.length_nil];omega)]at hs;cases hs
    subst this
    rw[hL,eL]at hb;cases hb
  exact e2.ne t t' v v' (out t v a hv ha) (out t' v' a' hv' ha') hne ho hl a a' ha ha'
end Go.Sx
namespace Go.Proofs.YtelidogcomffkaaGreatDoor
open Go Go.Sx
variable [Env]
def ofV (o r n d:Int):Int×Int:=if rightB n d=true then rnd o r n d 10000 else(0,1)
def allE (o r:Int) (g h:Nat→Int):Nat→Int
 |0=>0
 |n+1=>if allE o r g h n≠0 then allE o r g h n else(ofV o r (g n) (h n)).2
def btV (p:Int×Int×Int) (o r:Int):Int×Int:=if p.2.2=0 then ofV o r p.1 p.2.1 else(0,p.2.2)
abbrev rr (n:Nat) (g h:Nat→Int):Option Vw:=some (.row false 121 n 2 (fun i=>[I (g i),I (h i)]))
theorem allE_stop {o r:Int} {g h:Nat→Int} {i:Nat} (h0:allE o r g h i=0) (h1:(ofV o r (g i) (h i)).2≠0): ∀ n,i<n→allE o r g h n=(ofV o r (g i) (h i)).2:=by
 intro n
 induction n with
 |zero=>intro hn;omega
 |succ n ih=>
  intro hn
  unfold allE
  rcases Nat.lt_or_ge i n with c|c
  ·rw[ih c,if_pos h1]
  ·have:i=n:=by omega
   subst this
   rw[if_neg (fun q=>q h0)]
theorem accrue_Of_w {a1 a2 a3 a4:Int} {res:SV} (H:((rightB a3 a4)=false→(SV.tup [I 0,I 1])=res)∧((rightB a3 a4)=true→ ∃ r5 r6:Int,S 157 [I a1,I a2, .agg [I a3,I a4],I 10000] [] (.tup [I r5,I r6]) []∧(SV.tup [I r5,I r6])=res)):
  S 122 [I a1,I a2, .agg [I a3,I a4]] [] res []:=by
 refine SCall.st fun X hX=> ?_
 obtain⟨H1,H2⟩:=H
 refine hX.go [c_ [] (show S 156 [.agg [I a3,I a4]] [] (B (rightB a3 a4)) []from cRight _ _)] ?_
 rcases bcase (rightB a3 a4)with h0|h0
 ·obtain⟨r5,r6,h1,rfl⟩:=H2 h0
  exact hX.e [f_ (nf h0),c_ [] h1]
 ·obtain rfl:=H1 h0
  exact hX.e [t_ (nt h0)]
theorem aOf {o r:Int} (n d:Int) (h1:Ir o) (h2:Ir r):S 122 [I o,I r, .agg [I n,I d]] [] (IT (ofV o r n d)) []:=by
 simp only[Ir,InR]at h1 h2
 refine accrue_Of_w ⟨fun c=> ?_,fun c=> ?_⟩
 ·unfold ofV;rw[c];rfl
 ·have h:=of_decide_eq_true c
  have:=rPart3 (n:=n) (d:=d) o r 10000 (by omega) (by omega) (by omega) (by omega) (by omega) (by omega) (by omega)
  rw[show ofV o r n d=rnd o r n d 10000 by unfold ofV;rw[if_pos c]]
  exact⟨_,_,this,rfl⟩
noncomputable def accrue_All_h0 (n3:Nat) (g4:Nat→Int) (g5:Nat→Int) (x1:Int) (x2:Int) (x3:Int) (x4:Int) (n3_:Nat) (g1031:Nat→Int):SC:=
 ⟨[⟨204,slo 32 [(1, .fn (.func 205) [] [.ptr 1 0, .ptr 2 0]),(6, .sl 3 n3_),(11, .sl 0 n3),(12,I x1),(13,I x2)],[.code (bodyAt Tryz.f204 [1,1,0,1,0,0]), .inLoop (bodyAt Tryz.f204 [1,1,0,1,0,0]), .inBlock 0, .code (bodyAt Tryz.f204 [1,1,1])],{}⟩,⟨162,[none,none,none,none,none,none,none,none,some (.sl 0 n3),some (.fn (.func 205) [] [.ptr 1 0, .ptr 2 0]),none,none,none],[.inRegion (opsAt Tryz.f162 [1,0]) [2,3,4,5,6], .code (bodyAt Tryz.f162 [1,1])],{}⟩],[some (.row false 121 n3 2 (fun i=>[I (g4 i),I (g5 i)])),some (.box true [I x3]),some (.box true [I x4]),ro n3_ g1031]⟩
theorem accrue_All_w0 {X:Cx} {a1 a2:Int} {n3:Nat} {g4 g5:Nat→Int} {res:SV} {new:List (Option Vw)} (hX:Fi X 162 [some (.row false 121 n3 2 (fun i=>[I (g4 i),I (g5 i)]))] res new) (H:Ok X (accrue_All_h0 n3 g4 g5 ((n3:Nat):Int) 0 a1 a2 0 (fun _=>default))):
  Ok X (entry Tryz.prog 162 [I a1,I a2, .sl 0 n3] [some (.row false 121 n3 2 (fun i=>[I (g4 i),I (g5 i)]))]):=by
 exact hX.h 30 [i_] [.old 0, .old 1, .old 2, .nil 1] H
theorem accrue_All_w1 {X:Cx} {n3:Nat} {g4 g5:Nat→Int} {x1 x2 x3 x4:Int} {n3_:Nat} {g1031:Nat→Int} {res:SV} {new:List (Option Vw)} (hX:Fi X 162 [some (.row false 121 n3 2 (fun i=>[I (g4 i),I (g5 i)]))] res new) (H:(x2<x1→((0:Int)≤x2∧x2<((n3:Nat):Int))∧Ir x3∧Ir x4∧(((ofV x3 x4 (g4 x2.toNat) (g5 x2.toNat)).2)≠0→((SV.tup [.val (.slice none 0 0),I ((ofV x3 x4 (g4 x2.toNat) (g5 x2.toNat)).2)])=res∧sameHp [] new))∧(((ofV x3 x4 (g4 x2.toNat) (g5 x2.toNat)).2)=0→ ∃ q5005:Nat→Int,(∀ k,k<(n3_+1)→q5005 k=if k<n3_ then(g1031 k)else((ofV x3 x4 (g4 x2.toNat) (g5 x2.toNat)).1))∧(n3_+1)*8≤140737488355328∧Ir (x2+1)∧Ok X (accrue_All_h0 n3 g4 g5 x1 (x2+1) x3 x4 (n3_+1) q5005)))∧(¬x2<x1→((SV.tup [.sl 1 n3_,I 0])=res∧sameHp [ro n3_ g1031] new))):
  Ok X (accrue_All_h0 n3 g4 g5 x1 x2 x3 x4 n3_ g1031):=by
 obtain⟨H1,H2⟩:=H
 by_cases h0:x2<x1
 ·obtain⟨h1,h2,h3,H1,H2⟩:=H1 h0
  refine hX.go [t_ (dt h0),q_ h1,q_ (re n3),q_ h1,i_,c_ [] (show S 122 [I x3,I x4, .agg [I (g4 x2.toNat),I (g5 x2.toNat)]] [] (.tup [I ((ofV x3 x4 (g4 x2.toNat) (g5 x2.toNat)).1),I ((ofV x3 x4 (g4 x2.toNat) (g5 x2.toNat)).2)]) []from aOf _ _ h2 h3)] ?_
  by_cases h4:((ofV x3 x4 (g4 x2.toNat) (g5 x2.toNat)).2)=0
  ·obtain⟨q5005,h5,h6,h7,k⟩:=H2 h4
   exact hX.h 15 [f_ (bne_eq_false_iff_eq.2 h4),q_ (show ∀ k,k<1→(fun i=>[I ((ofV x3 x4 (g4 x2.toNat) (g5 x2.toNat)).1)]) k=[[I ((ofV x3 x4 (g4 x2.toNat) (g5 x2.toNat)).1)]].getD k []from by intro k hk;match k,hk with|0,_=>rfl|k+1,hk=>omega),q_ (re 1),q_ (re n3_),q_ h6,q_ (show ∀ k,k<n3_+1→(fun i=>[I (q5005 i)]) k=if k<n3_ then(fun i=>[I (g1031 i)]) k else(fun i=>[I ((ofV x3 x4 (g4 x2.toNat) (g5 x2.toNat)).1)]) (k-n3_)from fun k hk=>by
   have e0:=h5 k hk
   by_cases c:k<n3_
   ·rw[if_pos c]at e0⊢;simp only[e0]
   ·rw[if_neg c]at e0⊢;simp only[e0]),q_ h7,h_ [.row (fun i=>[I ((ofV x3 x4 (g4 x2.toNat) (g5 x2.toNat)).1)]), .row (fun i=>[I (q5005 i)])]] [.old 0, .old 1, .old 2, .old 7] k
  ·obtain⟨rfl,H⟩:=H1 h4
   exact(IsFin.same hX H).e [t_ (bne_iff_ne.2 h4)]
 ·obtain⟨rfl,H⟩:=H2 h0
  exact(IsFin.same hX H).e [f_ (df h0)] [3]
def allN (o r:Int) (g h:Nat→Int) (n:Nat):Nat:=if allE o r g h n=0 then n else 0
theorem aAll {o r:Int} {n:Nat} {g h:Nat→Int} (h1:Ir o) (h2:Ir r) (hn:n≤1000):S 162 [I o,I r, .sl 0 n] [rr n g h] (.tup [.sl 1 (allN o r g h n),I (allE o r g h n)]) [ro (allN o r g h n) (fun i=>(ofV o r (g i) (h i)).1)]:=by
 refine SCall.of (by kernel_rfl) rfl ⟨fun i=>rfl,trivial⟩ rfl (fun X hX=> ?_)
 have key: ∀ m i:Nat,n-i=m→i≤n→allE o r g h i=0→ ∀ q:Nat→Int,(∀ k,k<i→q k=(ofV o r (g k) (h k)).1)→Ok X (accrue_All_h0 n g h (n:Int) (i:Int) o r i q):=by
  intro m
  induction m with
  |zero=>
   intro i hm hi hE q hq
   have:i=n:=by omega
   subst this
   rw[show allN o r g h i=i from if_pos hE,hE]at hX
   exact accrue_All_w1 hX ⟨fun c=>by omega,fun _=>⟨rfl,⟨rfl,rfl,rfl,rfl,fun k hk=>by simp only[hq k hk]⟩,trivial⟩⟩
  |succ m ih=>
   intro i hm hi hE q hq
   by_cases c:(ofV o r (g i) (h i)).2=0
   ·refine accrue_All_w1 hX ⟨fun _=>⟨⟨by omega,by omega⟩,h1,h2,fun z=>absurd c z,fun _=>⟨fun k=>if k<i then q k else(ofV o r (g i) (h i)).1,fun k hk=>rfl,by omega,by simp only[Ir,InR];omega, ?_⟩⟩,fun z=>by omega⟩
    exact ih (i+1) (by omega) (by omega) (by unfold allE;rw[if_neg (fun z=>z hE),c]) _ (fun k hk=>by
     by_cases z:k<i
     ·rw[if_pos z,hq k z]
     ·rw[if_neg z,show k=i by omega])
   ·have e:=allE_stop hE c n (by omega)
    rw[show allN o r g h n=0 from if_neg (by rw[e];exact c),e]at hX
    exact accrue_All_w1 (IsFin.nilsl hX) ⟨fun _=>⟨⟨by omega,by omega⟩,h1,h2,fun _=>⟨rfl,trivial⟩,fun z=>absurd z c⟩,fun z=>by omega⟩
 exact accrue_All_w0 hX (key n 0 rfl (Nat.zero_le _) rfl _ (fun k hk=>by omega))
theorem accrue_Between_w {a1 a2 a3 a4 a5 a6 a7:Int} {a8 a9 a10:Bool} {a11:Int} {a12:Bool} {a13 a14:Int} {n15:Nat} {g16:Nat→Int} {a17 a18 a19:Int} {res:SV} (H:(((partC a4 a18 a19 a12 a13 a14 n15 g16).2.2)≠0→(SV.tup [I 0,I ((partC a4 a18 a19 a12 a13 a14 n15 g16).2.2)])=res)∧(((partC a4 a18 a19 a12 a13 a14 n15 g16).2.2)=0→Ir a17∧Ir a2∧(SV.tup [I ((ofV a17 a2 ((partC a4 a18 a19 a12 a13 a14 n15 g16).1) ((partC a4 a18 a19 a12 a13 a14 n15 g16).2.1)).1),I ((ofV a17 a2 ((partC a4 a18 a19 a12 a13 a14 n15 g16).1) ((partC a4 a18 a19 a12 a13 a14 n15 g16).2.1)).2)])=res)):
  S 89 [.agg [I a1,I a2,I a3,I a4,I a5,I a6,I a7,B a8,B a9,B a10,I a11], .agg [B a12,I a13,I a14, .sl 0 n15],I a17,I a18,I a19] [ri n15 g16] res []:=by
 refine SCall.st fun X hX=> ?_
 obtain⟨H1,H2⟩:=H
 refine hX.go [c_ [0] (show S 79 [I a4,I a18,I a19, .agg [B a12,I a13,I a14, .sl 0 n15]] [ri n15 g16] (RT (partC a4 a18 a19 a12 a13 a14 n15 g16)) []from cPart _ _ _)] ?_
 by_cases h0:((partC a4 a18 a19 a12 a13 a14 n15 g16).2.2)=0
 ·obtain⟨h1,h2,rfl⟩:=H2 h0
  exact hX.e [f_ (bne_eq_false_iff_eq.2 h0),c_ [] (show S 122 [I a17,I a2, .agg [I ((partC a4 a18 a19 a12 a13 a14 n15 g16).1),I ((partC a4 a18 a19 a12 a13 a14 n15 g16).2.1)]] [] (.tup [I ((ofV a17 a2 ((partC a4 a18 a19 a12 a13 a14 n15 g16).1) ((partC a4 a18 a19 a12 a13 a14 n15 g16).2.1)).1),I ((ofV a17 a2 ((partC a4 a18 a19 a12 a13 a14 n15 g16).1) ((partC a4 a18 a19 a12 a13 a14 n15 g16).2.1)).2)]) []from aOf _ _ h1 h2)]
 ·obtain rfl:=H1 h0
  exact hX.e [t_ (bne_iff_ne.2 h0)]
theorem aBet {a1 a2 a3 a4 a5 a6 a7 a11 a13 a14 a17 a18 a19:Int} {a8 a9 a10 a12:Bool} {n15:Nat} {g16:Nat→Int} (h1:Ir a17) (h2:Ir a2):
  S 89 [.agg [I a1,I a2,I a3,I a4,I a5,I a6,I a7,B a8,B a9,B a10,I a11], .agg [B a12,I a13,I a14, .sl 0 n15],I a17,I a18,I a19] [ri n15 g16] (IT (btV (partC a4 a18 a19 a12 a13 a14 n15 g16) a17 a2)) []:=by
 refine accrue_Between_w ⟨fun c=> ?_,fun c=>⟨h1,h2, ?_⟩⟩
 ·rw[show btV (partC a4 a18 a19 a12 a13 a14 n15 g16) a17 a2=(0,(partC a4 a18 a19 a12 a13 a14 n15 g16).2.2)from if_neg c]
 ·rw[show btV (partC a4 a18 a19 a12 a13 a14 n15 g16) a17 a2=ofV a17 a2 (partC a4 a18 a19 a12 a13 a14 n15 g16).1 (partC a4 a18 a19 a12 a13 a14 n15 g16).2.1 from if_pos c]
end Go.Proofs.YtelidogcomffkaaGreatDoor
