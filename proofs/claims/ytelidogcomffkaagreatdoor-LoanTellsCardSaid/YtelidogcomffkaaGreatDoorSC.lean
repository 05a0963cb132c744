/-
SX, third part: runs; contracts out of runs; loops' heads; range over a function; ways told by pieces.
-/
import Derived.Test.YtelidogcomffkaaGreatDoorSB
import Derived.Laws.IdiomCopy
import Derived.Lib.SliceRun
import Derived.RangeFuncLeaves
import Derived.RangeFuncRecord
import Derived.RangeFuncOwn
set_option linter.unusedSimpArgs false
set_option linter.unusedVariables false
namespace Go.Sx
open Go.RowKit
section
variable {ops:Array Oper} {res:List iF} {ok no:Nat→Bool}
theorem cU: ∀ (m:Nat) (l:List (Option SV)),(fw ops res ok no m l).length=l.length
 |0,l=>rfl
 |m+1,l=>by
  simp only[fw]
  split
  ·split
   ·exact cU m l
   ·simp[cU m l]
  ·exact cU m l
theorem gg: ∀ {m:Nat} {l:List (Option SV)} {j:Nat} {v:SV},(fw ops res ok no m l)[j]? =some (some v)→
  (∃ q r,q<m∧dS ops q=some j∧j<l.length∧ok q=true∧res[q]? =some r∧r.v=v)∨(l[j]? =some (some v)∧ ∀ q,q<m→no q=false→dS ops q≠some j)
 |0,l,j,v,h=> .inr ⟨h,fun q hq _=>by omega⟩
 |m+1,l,j,v,h=>by
  simp only[fw]at h
  split at h
  ·rename_i d hd
   split at h
   ·rename_i hno
    rcases gg h with⟨q,r,h1,h2⟩|⟨h1,h2⟩
    all_goals grind
   ·rw[List.getElem?_set]at h
    split at h
    ·grind [cU]
    ·rename_i he
     rcases gg h with⟨q,r,h1,h2⟩|⟨h1,h2⟩
     all_goals grind
  ·rename_i hd
   rcases gg h with⟨q,r,h1,h2⟩|⟨h1,h2⟩
   all_goals grind
theorem vV: ∀ {res:List iF} {q0 t:Nat} {x:Vw},(tS ok q0 res)[t]? =some (some x)→ ∃ q r k,res[q]? =some r∧ok (q0+q)=true∧r.news[k]? =some x∧t=g_ (res.take q)+k
 |[],q0,t,x,h=>by simp[tS]at h
 |r::rs,q0,t,x,h=>by
  simp only[tS]at h
  by_cases hlt:t<r.news.length
  ·rw[List.getElem?_append_left (by simpa using hlt),List.getElem?_map]at h
   rw[List.getElem?_eq_getElem hlt]at h
   simp only[Option.map_some,Option.some.injEq]at h
   split at h
   ·rename_i hok
    cases h
    exact⟨0,r,t,rfl,by simpa using hok,List.getElem?_eq_getElem hlt,by simp[g_]⟩
   ·cases h
  ·rw[List.getElem?_append_right (by simpa using hlt)]at h
   simp only[List.length_map]at h
   obtain⟨q,r',k,h1,h2,h3,h4⟩:=vV h
   refine⟨q+1,r',k,by simpa using h1,by rw[←h2];congr 1;omega,h3, ?_⟩
   simp only[List.take_succ_cons,g_]
   omega
theorem qu: ∀ (res:List iF) (q0:Nat),(tS ok q0 res).length=g_ res
 |[],_=>rfl
 |r::rs,q0=>by simp[tS,g_,qu rs]
theorem uh: ∀ {res:List iF} {t:Nat},t∈wY res↔ ∃ (i:Nat) (r:iF),res[i]? =some r∧r.oV=some t
 |[],t=>by simp[wY]
 |a::rs,t=>by
  have ih:=uh (res:=rs) (t:=t)
  have hs:(∃ (i:Nat) (r:iF),(a::rs)[i]? =some r∧r.oV=some t)↔a.oV=some t∨ ∃ (i:Nat) (r:iF),rs[i]? =some r∧r.oV=some t:=by
   constructor
   ·grind
   ·rintro (h|⟨i,r,h1,h2⟩)
    ·exact⟨0,a,rfl,h⟩
    ·exact⟨i+1,r,by simpa using h1,h2⟩
  rw[hs]
  simp only[wY]
  grind
theorem rK: ∀ (cs:List Nat) (h:List (Option Vw)),(mask cs h).length=h.length
 |[],h=>rfl
 |t::r,h=>by rw[mask,rK r];simp
theorem ym: ∀ {cs:List Nat} {h:List (Option Vw)} {t:Nat} {x:Vw},(mask cs h)[t]? =some (some x)→h[t]? =some (some x)∧t∉cs
 |[],h,t,x,hx=>⟨hx,by simp⟩
 |u::r,h,t,x,hx=>by
  obtain⟨h1,h2⟩:=ym (cs:=r) hx
  grind
theorem dP {hp:List (Option Vw)}:(gW hp res ok).length=hp.length+g_ res:=by simp[gW,rK,qu]
theorem gi {hp:List (Option Vw)} {t:Nat} {x:Vw} (h:(gW hp res ok)[t]? =some (some x)):(hp[t]? =some (some x)∧t<hp.length)∨ ∃ q r k,res[q]? =some r∧ok q=true∧r.news[k]? =some x∧t∉wY res∧t=bj hp.length res q+k:=by
 obtain⟨h,hn⟩:=ym h
 rw[List.getElem?_append]at h
 split at h
 ·simp_all
 ·obtain⟨q,r,k,h1,h2,h3,h4⟩:=vV h
  exact .inr ⟨q,r,k,h1,by simpa using h2,h3,hn,by unfold bj;omega⟩
theorem ug {N jt t:Nat} (h:BN N res jt (some t)=true):N≤t∧ ∀ q j,q<res.length→j<res.length→bj N res q≤t→t<bj N res (q+1)→(j=q∨ ∃ r,res[j]? =some r∧r.jt.testBit q=true)→jt.testBit j=true:=by
 simp only[BN,Bool.and_eq_true,decide_eq_true_eq]at h
 refine⟨h.1,fun q j hq hj h1 h2 h3=> ?_⟩
 have h4:=List.all_eq_true.1 h.2 q (List.mem_range.2 hq)
 simp only[Bool.or_eq_true,Bool.not_eq_true',Bool.and_eq_false_iff,decide_eq_false_iff_not]at h4
 grind
theorem gq: ∀ {res:List iF} {q:Nat} {r:iF},res[q]? =some r→g_ (res.take (q+1))=g_ (res.take q)+r.news.length
 |[],q,r,h=>by simp at h
 |a::rs,0,r,h=>by simp at h;subst h;simp[g_]
 |a::rs,q+1,r,h=>by
  have:=gq (res:=rs) (q:=q) (r:=r) (by simpa using h)
  simp only[List.take_succ_cons,g_]at this⊢
  omega
theorem gr: ∀ {res:List iF} {q q':Nat},q≤q'→g_ (res.take q)≤g_ (res.take q')
 |[],q,q',h=>by simp[g_]
 |a::rs,0,q',h=>by simp[g_]
 |a::rs,q+1,0,h=>by omega
 |a::rs,q+1,q'+1,h=>by
  have:=gr (res:=rs) (q:=q) (q':=q') (by omega)
  simp only[List.take_succ_cons,g_]
  omega
theorem oY: ∀ {js:List Nat} {p:Nat},(kH res js).testBit p=true↔ ∃ j∈js,p=j∨ ∃ r,res[j]? =some r∧r.jt.testBit p=true
 |[],p=>by simp[kH]
 |j::js,p=>by
  simp only[kH,Nat.testBit_or,Bool.or_eq_true,oY (js:=js),Nat.testBit_two_pow,decide_eq_true_eq,List.mem_cons]
  constructor
  ·rintro ((h|h)|⟨j',h1,h2⟩)
   ·simp_all
   ·cases hr:res[j]? with
    |none=>simp[hr]at h
    |some r=>simp[hr]at h;exact⟨j, .inl rfl, .inr ⟨r,hr,h⟩⟩
   ·exact⟨j', .inr h1,h2⟩
  grind
end
section
variable {P:Program} {gl:List (Nat×Vw)} {ops:Array Oper} {m:Nat} {l:List (Option SV)} {hp:List (Option Vw)}
def uH (P:Program) (gl:List (Nat×Vw)) (ops:Array Oper) (m:Nat) (l:List (Option SV)) (hp:List (Option Vw)) (res:List iF) (i:Nat):Prop:=
 ∃ o hs ps hs1 g r,ops[i]? =some o∧fN ops (fw ops (res.take i) (bC o).contains (waits ops i) m l) hs o=some (ps,hs1,g)∧bE ps∧res[i]? =some r∧r.jt=kH (res.take i) (bC o)∧
   ((g=false∧r.v= .af []∧r.news=[]∧r.oV=none)∨
     (g=true∧ ∃ qs hs',KO P gl (fw ops (res.take i) (bC o).contains (waits ops i) m l) (gW hp (res.take i) (kH (res.take i) (bC o)).testBit) hs1 o.op=some (qs,hs',r.v,r.news,r.oV)∧bE qs∧BN hp.length (res.take i) (kH (res.take i) (bC o)) r.oV=true))
theorem dQ: ∀ {n:Nat} {res r:List iF} {hs hs':List Hint} {ps:List Prop},qv P gl ops m l hp n res hs=some (ps,hs',r)→ ∃ s,r=res++s∧s.length=n
 |0,res,r,hs,hs',ps,h=>by simp only[qv,Option.some.injEq,Prod.mk.injEq]at h;exact⟨[],by rw[←h.2.2];simp,rfl⟩
 |n+1,res,r,hs,hs',ps,h=>by
  simp only[qv]at h
  split at h
  ·cases h
  ·split at h
   ·split at h
    ·rename_i hx
     cases h
     obtain⟨s,h1,h2⟩:=dQ hx
     simp_all
    ·cases h
   ·split at h
    ·split at h
     ·split at h
      ·rename_i hx
       cases h
       obtain⟨s,h1,h2⟩:=dQ hx
       simp_all
      ·cases h
     ·cases h
    ·cases h
   ·cases h
theorem qW: ∀ {n:Nat} {res r:List iF} {hs hs':List Hint} {ps:List Prop},qv P gl ops m l hp n res hs=some (ps,hs',r)→bE ps→ ∀ i,res.length≤i→i<res.length+n→uH P gl ops m l hp r i
 |0,res,r,hs,hs',ps,h,hps,i,h1,h2=>by omega
 |n+1,res,r,hs,hs',ps,h,hps,i,h1,h2=>by
  have hpre:=dQ h
  simp only[qv]at h
  split at h
  ·cases h
  ·rename_i o ho
   split at h
   ·rename_i ps1 hs1 hg
    split at h
    ·rename_i qs hs2 r' hx
     simp only[Option.some.injEq,Prod.mk.injEq]at h
     obtain⟨rfl, -,rfl⟩:=h
     obtain⟨h3,h4⟩:=aK hps
     obtain⟨s,hs, -⟩:=dQ hx
     rcases Nat.eq_or_lt_of_le h1 with rfl|h5
     ·have ht:r'.take res.length=res:=by rw[hs];simp
      refine⟨o,_,ps1,hs1,false,_,ho,by rw[ht];exact hg,h3,by rw[hs];simp;rfl,by rw[ht], .inl ⟨rfl,rfl,rfl,rfl⟩⟩
     ·exact qW hx h4 i (by simp;omega) (by simp;omega)
    ·cases h
   ·rename_i ps1 hs1 hg
    split at h
    ·rename_i qs hs2 v news oV hop
     split at h
     ·rename_i hcon
      split at h
      ·rename_i rs hs3 r' hx
       simp only[Option.some.injEq,Prod.mk.injEq]at h
       obtain⟨rfl, -,rfl⟩:=h
       obtain⟨h3,h4⟩:=aK hps
       obtain⟨h5,h6⟩:=aK h4
       obtain⟨s,hs, -⟩:=dQ hx
       rcases Nat.eq_or_lt_of_le h1 with rfl|h7
       ·have ht:r'.take res.length=res:=by rw[hs];simp
        refine⟨o,_,ps1,hs1,true,⟨v,news,kH res (bC o),oV⟩,ho,by rw[ht];exact hg,h3,by rw[hs];simp,by rw[ht], .inr ⟨rfl,qs,hs2,by rw[ht];exact hop,h5,by rw[ht];exact hcon⟩⟩
       ·exact qW hx h6 i (by simp;omega) (by simp;omega)
      ·cases h
     ·cases h
    ·cases h
   ·cases h
end
end Go.Sx
namespace Go.Sx
open Go.RowKit
def Aq (N:Nat) (res:List iF) (a:Nat) (q:Nat) (t:Nat):Prop:=t<N∨ ∃ p,(p=q∨a.testBit p=true)∧bj N res p≤t∧t<bj N res (p+1)
def Ai (N:Nat) (res:List iF) (a:Nat) (t:Nat):Prop:=t<N∨ ∃ p,a.testBit p=true∧bj N res p≤t∧t<bj N res (p+1)
def jq (m:Nat) (res:List iF) (L:Nat→Bool) (t:Nat):Prop:= ∀ i r,i<m→L i=true→res[i]? =some r→r.oV≠some t
structure yW (P:Program) (gl:List (Nat×Vw)) (base:Nat) (ops:Array Oper) (m:Nat) (l:List (Option SV)) (hp:List (Option Vw)) (res:List iF) (L:Nat→Bool) (θ:Th) (T:Array Value) (w:World):Prop where
 size:T.size=l.length
 ae: ∀ θ',az hp.length θ θ'→bm θ' base hp w∧ ∀ (j:Nat) (v:SV),l[j]? =some (some v)→(∀ q,q<m→L q=true→dS ops q≠some j)→T[j]? =some (den θ' v)
 op: ∀ q r,q<m→L q=true→res[q]? =some r→ ∀ θ',bX (Aq hp.length res r.jt q) θ θ'→(∀ d,dS ops q=some d→d<l.length→T[d]? =some (den θ' r.v))∧
  ∀ k x,r.news[k]? =some x→jq m res L (bj hp.length res q+k)→aX θ' base w (θ (bj hp.length res q+k)) x
 ne: ∀ q q' r r' k k' x x',q<m→q'<m→L q=true→L q'=true→res[q]? =some r→res[q']? =some r'→r.news[k]? =some x→r'.news[k']? =some x'→(q≠q'∨k≠k')→jq m res L (bj hp.length res q+k)→jq m res L (bj hp.length res q'+k')→x.own=true→(x'.own=true∨x'.live)→
  ∀ a a',(θ (bj hp.length res q+k)).base=some a→(θ (bj hp.length res q'+k')).base=some a'→a.block≠a'.block
 rI: ∀ q r k x,q<m→L q=true→res[q]? =some r→r.news[k]? =some x→jq m res L (bj hp.length res q+k)→ ∀ t x',hp[t]? =some (some x')→((x.own=true∧(x'.own=true∨x'.live))∨(x'.own=true∧(x.own=true∨x.live)))→ ∀ a a',(θ (bj hp.length res q+k)).base=some a→(θ t).base=some a'→a.block≠a'.block
 closed: ∀ q r,q<m→L q=true→res[q]? =some r→ ∀ p,r.jt.testBit p=true→L p=true
 gX:vr gl w
 gb: ∀ g v,(g,v)∈gl→g<base
 sz:base≤w.heap.size
section
variable {P:Program} {gl:List (Nat×Vw)} {base:Nat} {ops:Array Oper} {F:List Nat} {kt:Nat} {m:Nat} {l:List (Option SV)} {hp:List (Option Vw)} {res:List iF} {L:Nat→Bool} {θ:Th} {T:Array Value} {w:World} {rx:Rx} {fn:FuncId} {k0:List Item} {cs:List Frame}
theorem iT {i j:Nat} {o:Oper} (h:cc ops m F kt=true) (ho:ops[i]? =some o) (hj:j∈bC o):j<i:=by
 simp only[cc,Bool.and_eq_true]at h
 grind
theorem pM {i:Nat} {o:Oper} {L:Nat→Bool} (h:cc ops m F kt=true) (ho:ops[i]? =some o) (hm:m≤i) (hc: ∀ q oq j,L q=true→ops[q]? =some oq→j∈bC oq→L j=true) (hn: ∀ j,j∈bC o→L j=true):
  ∀ d j,j<i→i-j≤d→(decide (i<m+kt)&&F.contains j)=false→L j=true:=by
 simp only[cc,Bool.and_eq_true]at h
 have:=List.all_eq_true.1 h.1.1 i (List.mem_range.2 (Array.getElem?_eq_some_iff.1 ho).1)
 simp only[ho]at this
 rw[Bool.and_eq_true,Bool.or_eq_true,decide_eq_true_eq]at this
 rcases this.2 with h1|h1
 ·omega
 ·intro d
  induction d with
  |zero=>intro j hj hd;omega
  |succ d ih=>
   intro j hj hd hf
   have h2:=List.all_eq_true.1 h1 j (List.mem_range.2 hj)
   rw[Bool.or_eq_true,Bool.or_eq_true]at h2
   rcases h2 with h2|h2|h2
   ·rw[hf]at h2;cases h2
   ·simp_all
   ·obtain⟨k,hk,h3⟩:=List.any_eq_true.1 h2
    rw[List.mem_range]at hk
    rw[Bool.and_eq_true,Bool.and_eq_true,decide_eq_true_eq,Bool.not_eq_true']at h3
    have hk':=ih k hk (by omega) h3.2
    have h4:=h3.1.2
    unfold waits at h4
    grind
theorem Cw {i j d:Nat} (h:cc ops m F kt=true) (hi:i<m) (hj:j<i) (h1:dS ops i=some d):dS ops j≠some d:=by
 simp only[cc,Bool.and_eq_true]at h
 have:=List.all_eq_true.1 h.1.2 i (List.mem_range.2 hi)
 grind
theorem Ak {i j d:Nat} (h:cc ops m F kt=true) (hi:i<m) (hj:j<m) (hne:i≠j) (h1:dS ops i=some d):dS ops j≠some d:=by
 grind [Cw]
structure Fl (ops:Array Oper) (m:Nat) (res:List iF):Prop where
 lt: ∀ i r p,i<m→res[i]? =some r→r.jt.testBit p=true→p<i
 IN: ∀ i r o j,i<m→res[i]? =some r→ops[i]? =some o→j∈bC o→r.jt.testBit j=true
 trans: ∀ i r p r' q,i<m→res[i]? =some r→r.jt.testBit p=true→res[p]? =some r'→r'.jt.testBit q=true→r.jt.testBit q=true
 bit: ∀ i r p,i<m→res[i]? =some r→r.jt.testBit p=true→ ∃ o j,ops[i]? =some o∧j∈bC o∧(p=j∨ ∃ r',res[j]? =some r'∧r'.jt.testBit p=true)
theorem pZ {i j:Nat} {r:iF} (h:(res.take i)[j]? =some r):j<i∧res[j]? =some r:=by
 grind
theorem HF (h:cc ops m F kt=true) (htab: ∀ i,i<m→uH P gl ops m l hp res i):Fl ops m res:=by
 have hbit: ∀ i r p,i<m→res[i]? =some r→(r.jt.testBit p=true↔ ∃ o j,ops[i]? =some o∧j∈bC o∧(p=j∨ ∃ r',res[j]? =some r'∧r'.jt.testBit p=true)):=by
  intro i r p hi hr
  obtain⟨o,hs,ps,hs1,g,r',ho,hg,hps,hr',hanc, -⟩:=htab i hi
  rw[hr]at hr';cases hr'
  rw[hanc,oY]
  constructor
  ·grind
  grind [iT]
 have hlt: ∀ i r p,i<m→res[i]? =some r→r.jt.testBit p=true→p<i:=by
  intro i
  induction i using Nat.strongRecOn with
  |_ i ih=>
   intro r p hi hr hp
   obtain⟨o,j,ho,hj,h1⟩:=(hbit i r p hi hr).1 hp
   have hji:=iT h ho hj
   grind
 refine⟨hlt,fun i r o j hi hr ho hj=>(hbit i r j hi hr).2 ⟨o,j,ho,hj, .inl rfl⟩, ?_,fun i r p hi hr hp=>(hbit i r p hi hr).1 hp⟩
 intro i
 induction i using Nat.strongRecOn with
 |_ i ih=>
  intro r p r' q hi hr hp hr' hq
  obtain⟨o,j,ho,hj,h1⟩:=(hbit i r p hi hr).1 hp
  have hji:=iT h ho hj
  rcases h1 with rfl|⟨r2,h2,h3⟩
  ·grind
  ·exact(hbit i r q hi hr).2 ⟨o,j,ho,hj, .inr ⟨r2,h2,ih j hji r2 p r' q (by omega) h2 h3 hr' hq⟩⟩
theorem Bm {N:Nat} {q q':Nat} (h:q≤q'):bj N res q≤bj N res q':=by
 have:=gr (res:=res) h
 unfold bj;omega
theorem qP {N:Nat} {q:Nat} {r:iF} (h:res[q]? =some r):bj N res (q+1)=bj N res q+r.news.length:=by
 have:=gq h
 unfold bj;omega
theorem qO {N p q t:Nat} (h1:bj N res p≤t) (h2:t<bj N res (p+1)) (h3:bj N res q≤t) (h4:t<bj N res (q+1)):p=q:=by
 rcases Nat.lt_trichotomy p q with h|h|h
 ·have:=Bm (res:=res) (N:=N) (show p+1≤q from h);omega
 ·exact h
 ·have:=Bm (res:=res) (N:=N) (show q+1≤p from h);omega
theorem pw {i q k:Nat} {r r':iF} (hclosed: ∀ q r,q<m→L q=true→res[q]? =some r→ ∀ p,r.jt.testBit p=true→L p=true) (htab: ∀ i,i<m→uH P gl ops m l hp res i) (ha:Fl ops m res) (hi:i<m) (hr:res[i]? =some r) (hun:L i=false)
  (hq:r.jt.testBit q=true) (hr':res[q]? =some r') (hk:k<r'.news.length) (hnc:bj hp.length res q+k∉wY (res.take i)):jq m res L (bj hp.length res q+k):=by
 intro i' r1 hi' hL' hr1 hcon
 have hqi:=ha.lt i r q hi hr hq
 rcases Nat.lt_trichotomy i' i with h|h|h
 ·exact hnc (uh.2 ⟨i',r1,by rw[List.getElem?_take,if_pos h];exact hr1,hcon⟩)
 ·simp_all
 ·obtain⟨o,hs,ps,hs1,g,r2, -, -, -,hr2,hanc,hcase⟩:=htab i' hi'
  rw[hr1]at hr2;cases hr2
  rcases hcase with⟨-, -, -,h1⟩|⟨-,qs,hs', -, -,h1⟩
  ·rw[hcon]at h1;cases h1
  ·rw[hcon,←hanc]at h1
   have hoff: ∀ p,p≤i'→bj hp.length (res.take i') p=bj hp.length res p:=fun p hp'=>by
    unfold bj;rw[List.take_take,Nat.min_eq_left hp']
   have hlen:i'≤res.length:=Nat.le_of_lt (List.getElem?_eq_some_iff.1 hr1).1
   have hl2:(res.take i').length=i':=by simp[hlen]
   have h2:=(ug h1).2 q i (by omega) (by omega) (by rw[hoff q (by omega)];omega) (by rw[hoff (q+1) (by omega)];have:=gq hr';unfold bj at*;omega)
    (.inr ⟨r,by rw[List.getElem?_take,if_pos h];exact hr,hq⟩)
   grind
theorem yW.pre {i:Nat} {o:Oper} {r:iF} (hI:yW P gl base ops m l hp res L θ T w) (he:cc ops m F kt=true) (htab: ∀ i,i<m→uH P gl ops m l hp res i) (ha:Fl ops m res) (hi:i<m) (ho:ops[i]? =some o) (hr:res[i]? =some r)
  (hL: ∀ j,j∈bC o→L j=true) (hm: ∀ j,L j=true→j<m) (hun:L i=false) (hres: ∀ q,q<m→ ∃ r,res[q]? =some r):
  gM (Ai hp.length res r.jt) P gl base θ (fw ops (res.take i) (bC o).contains (waits ops i) m l) (gW hp (res.take i) r.jt.testBit) T w∧ ∀ p,r.jt.testBit p=true→L p=true:=by
 have hanc: ∀ p,r.jt.testBit p=true→L p=true:=fun p hp'=>by
  obtain⟨o',j,ho',hj,h1⟩:=ha.bit i r p hi hr hp'
  rw[ho]at ho';cases ho'
  rcases h1 with rfl|⟨r',h2,h3⟩
  ·exact hL p hj
  ·exact hI.closed j r' (hm j (hL j hj)) (hL j hj) h2 p h3
 have hoff: ∀ q,q<i→ ∀ n,bj n (res.take i) q=bj n res q:=fun q hq n=>by
  unfold bj;rw[List.take_take,Nat.min_eq_left (by omega)]
 have hget: ∀ t x,(gW hp (res.take i) r.jt.testBit)[t]? =some (some x)→(hp[t]? =some (some x)∧t<hp.length)∨ ∃ q r' k,q<i∧res[q]? =some r'∧r.jt.testBit q=true∧r'.news[k]? =some x∧jq m res L (bj hp.length res q+k)∧t=bj hp.length res q+k:=fun t x ht=>by
  rcases gi ht with h|⟨q,r',k,h1,h2,h3,hnc,h4⟩
  ·exact .inl h
  ·obtain⟨h5,h6⟩:=pZ h1
   have h7:t=bj hp.length res q+k:=by rw[h4,hoff q h5]
   exact .inr ⟨q,r',k,h5,h6,h2,h3,pw hI.closed htab ha hi hr hun h2 h6 (List.getElem?_eq_some_iff.1 h3).1 (by rw[←h7];exact hnc),h7⟩
 have hin: ∀ q r' k,res[q]? =some r'→k<r'.news.length→bj hp.length res q≤bj hp.length res q+k∧bj hp.length res q+k<bj hp.length res (q+1):=fun q r' k h1 h2=>by
  rw[qP h1];omega
 have hsub: ∀ q r',r.jt.testBit q=true→res[q]? =some r'→ ∀ t,Aq hp.length res r'.jt q t→Ai hp.length res r.jt t:=fun q r' hq hr' t ht=>by
  rcases ht with ht|⟨p,hp',h1,h2⟩
  ·exact .inl ht
  ·refine .inr ⟨p, ?_,h1,h2⟩
   rcases hp' with rfl|hp'
   ·exact hq
   ·exact ha.trans i r q r' p hi hr hq hr' hp'
 refine⟨⟨fun θ' hs=>⟨⟨fun t x ht=> ?_,fun t t' x x' ht ht' hne hown hl a a' hb hb'=> ?_⟩, ?_,fun j v hj=> ?_⟩,fun t x ht=> ?_,hI.gX,hI.gb,hI.sz⟩,hanc⟩
 ·rcases hget t x ht with⟨h1, -⟩|⟨q,r',k,h1,h2,h3,h4,hal,rfl⟩
  ·exact(hI.ae θ' (fun t ht=>hs t (.inl ht))).1.vw t x h1
  ·have hk:=(List.getElem?_eq_some_iff.1 h4).1
   have h5:=hin q r' k h2 hk
   rw[hs _ (.inr ⟨q,h3,h5.1,h5.2⟩)]
   exact((hI.op q r' (by omega) (hanc q h3) h2 θ' (fun t ht=>hs t (hsub q r' h3 h2 t ht))).2 k x h4 hal)
 ·rcases hget t x ht with⟨h1,h1'⟩|⟨q,r',k,h1,h2,h3,h4,hal,rfl⟩<;>rcases hget t' x' ht' with⟨g1,g1'⟩|⟨q',r2,k',g1,g2,g3,g4,gal,rfl⟩
  ·exact(hI.ae θ' (fun t ht=>hs t (.inl ht))).1.ne t t' x x' h1 g1 hne hown hl a a' hb hb'
  ·have hk:=(List.getElem?_eq_some_iff.1 g4).1
   have h5:=hin q' r2 k' g2 hk
   rw[hs _ (.inr ⟨q',g3,h5.1,h5.2⟩)]at hb'
   rw[hs _ (.inl h1')]at hb
   exact fun e=>hI.rI q' r2 k' x' (by omega) (hanc q' g3) g2 g4 gal t x h1 (.inr ⟨hown,hl⟩) a' a hb' hb e.symm
  ·have hk:=(List.getElem?_eq_some_iff.1 h4).1
   have h5:=hin q r' k h2 hk
   rw[hs _ (.inr ⟨q,h3,h5.1,h5.2⟩)]at hb
   rw[hs _ (.inl g1')]at hb'
   exact hI.rI q r' k x (by omega) (hanc q h3) h2 h4 hal t' x' g1 (.inl ⟨hown,hl⟩) a a' hb hb'
  ·have hk:=(List.getElem?_eq_some_iff.1 h4).1
   have hk':=(List.getElem?_eq_some_iff.1 g4).1
   have h5:=hin q r' k h2 hk
   have h6:=hin q' r2 k' g2 hk'
   rw[hs _ (.inr ⟨q,h3,h5.1,h5.2⟩)]at hb
   rw[hs _ (.inr ⟨q',g3,h6.1,h6.2⟩)]at hb'
   refine hI.ne q q' r' r2 k k' x x' (by omega) (by omega) (hanc q h3) (hanc q' g3) h2 g2 h4 g4 ?_ hal gal hown hl a a' hb hb'
   grind
 ·rw[cU];exact hI.size
 ·rcases gg hj with⟨q,r',h1,h2,h3,h4,h5,h6⟩|⟨h1,h2⟩
  ·obtain⟨h8,h9⟩:=pZ h5
   have h10:q∈bC o:=List.contains_iff_mem.1 h4
   have hq:=ha.IN i r o q hi hr ho h10
   have:=(hI.op q r' (by omega) (hL q h10) h9 θ' (fun t ht=>hs t (hsub q r' hq h9 t ht))).1 j h2 h3
   simp_all
  ·refine(hI.ae θ' (fun t ht=>hs t (.inl ht))).2 j v h1 (fun q hq hLq=>h2 q hq ?_)
   cases hw:waits ops i q with
   |false=>rfl
   |true=>
    unfold waits at hw
    split at hw
    ·rename_i oq hoq
     obtain⟨rq,hrq⟩:=hres q hq
     have h3:=hI.closed q rq hq hLq hrq i (ha.IN q rq oq i hq hrq hoq (List.contains_iff_mem.1 hw))
     rw[hun]at h3;cases h3
    ·cases hw
 ·rcases hget t x ht with⟨h1,h2⟩|⟨q,r',k,h1,h2,h3,h4,hal,rfl⟩
  ·exact .inl h2
  ·have h5:=hin q r' k h2 (List.getElem?_eq_some_iff.1 h4).1
   exact .inr ⟨q,h3,h5.1,h5.2⟩
end
end Go.Sx
namespace Go.Sx
open Go.RowKit
section
variable {P:Program} {gl:List (Nat×Vw)} {base:Nat} {ops:Array Oper} {F:List Nat} {kt:Nat} {m:Nat} {l:List (Option SV)} {hp:List (Option Vw)} {res:List iF} {L:Nat→Bool} {θ:Th} {T:Array Value} {w:World} {rx:Rx} {fn:FuncId} {k0:List Item} {cs:List Frame}
theorem yD {i:Nat} {a:Nat→Bool}:(gW hp (res.take i) a).length=bj hp.length res i:=by rw[dP];rfl
theorem jA {o:Oper} {r:Value} {d:Nat}:((Act.mk T []).put o.dst r).tmps[d]? =if o.dst=some d then(if d<T.size then some r else none)else T[d]? :=by
 unfold Act.put
 grind
theorem ye {o:Oper} {r:Value}:((Act.mk T []).put o.dst r).tmps.size=T.size:=by
 unfold Act.put;cases o.dst<;>simp
theorem yW.next {i:Nat} {o:Oper} {r:iF} {rest:List Nat} (hI:yW P gl base ops m l hp res L θ T w) (he:cc ops m F kt=true) (htab: ∀ i,i<m→uH P gl ops m l hp res i) (hi:i<m) (ho:ops[i]? =some o) (hr:res[i]? =some r)
  (hun:L i=false) (hL: ∀ j,j∈bC o→L j=true) (hm: ∀ j,L j=true→j<m):
  ∃ T' w' θ',Steps P (lone (au rx fn T (.inRegion ops (i::rest)::k0)) cs w) (lone (au rx fn T' (.inRegion ops rest::k0)) cs w')∧Below base w w'∧az hp.length θ θ'∧
    yW P gl base ops m l hp res (fun q=>q==i||L q) θ' T' w':=by
 have ha:=HF he htab
 obtain⟨hpre,hanc⟩:=hI.pre he htab ha hi ho hr hL hm hun (fun q hq=>by obtain⟨_,_,_,_,_,r,_,_,_,hr,_⟩:=htab q hq;exact⟨r,hr⟩)
 obtain⟨o',hs,ps,hs1,g,r',ho',hg,hps,hr',hranc,hcase⟩:=htab i hi
 rw[ho]at ho';cases ho'
 rw[hr]at hr';cases hr'
 have hw:Region.wanted o (yielded ops T)=g:=cK hg hps (hpre.inv θ (bX.refl _ _)).2
 have hES:pq P base (Ai hp.length res r.jt) θ rx fn T w ops i o (gW hp (res.take i) r.jt.testBit) rest k0 cs r.v r.news r.oV:=by
  rcases hcase with⟨rfl,hv,hn,hcn⟩|⟨rfl,qs,hs',hx,hqs, -⟩
  ·rw[hcn]
   refine eh.lift hI.sz ⟨undef,w,fun _=>⟨none,0,0⟩, ?_,Below.refl _ _,fun θ' _ _=>⟨by rw[hv];rfl,fun k x hk=>by rw[hn]at hk;simp at hk,fun k k' x x' hk=>by rw[hn]at hk;simp at hk⟩⟩
   have:=vy (P:=P) (w:=w) (rx:=rx) (fn:=fn) (T:=T) (k:=k0) (cs:=cs) (rest:=rest) ho hw
   exact .one this
  ·rw[←hranc]at hx
   exact CV hpre ho hw hx hqs
 have hcon: ∀ t,r.oV=some t→hp.length≤t:=fun t ht=>by
  rcases hcase with⟨-, -, -,hcn⟩|⟨-, -, -, -, -,hc⟩
  ·rw[hcn]at ht;cases ht
  ·rw[ht]at hc;exact(ug hc).1
 obtain⟨rv,w',nw,hst,hbel,hkeep,hcx,hfin⟩:=hES
 simp only[yD]at hfin
 let N:=hp.length
 have hN: ∀ q,N≤bj N res q:=fun q=>by unfold bj;omega
 let θ2:Th:=fun t=>if bj N res i≤t∧t<bj N res (i+1)then nw (t-bj N res i)else θ t
 have hin: ∀ q r' k,res[q]? =some r'→k<r'.news.length→bj N res q≤bj N res q+k∧bj N res q+k<bj N res (q+1):=fun q r' k h1 h2=>by
  rw[qP h1];omega
 have h2i: ∀ k,k<r.news.length→θ2 (bj N res i+k)=nw k:=fun k hk=>by
  grind
 have h2o: ∀ q r' k,q≠i→res[q]? =some r'→k<r'.news.length→θ2 (bj N res q+k)=θ (bj N res q+k):=fun q r' k hq h1 h2=>by
  grind [qO]
 have h2N: ∀ t,t<N→θ2 t=θ t:=fun t ht=>by
  grind
 have hanci: ∀ p,r.jt.testBit p=true→p≠i:=fun p hp'=>by have:=ha.lt i r p hi hr hp';omega
 have h2A:bX (Ai N res r.jt) θ θ2:=fun t ht=>by
  rcases ht with ht|⟨p,h1,h2,h3⟩
  all_goals grind [qO]
 obtain⟨hrv,hnews,hnne⟩:=hfin θ2 h2A h2i
 have hused: ∀ t,r.oV=some t→ ∃ q r' k x,q<m∧L q=true∧res[q]? =some r'∧r'.news[k]? =some x∧t=bj N res q+k∧jq m res L (bj N res q+k)∧x.own=true:=fun t ht=>by
  obtain⟨x,h1,hxo⟩:=hcx t ht
  rcases gi h1 with⟨-,h2⟩|⟨q,r',k,h2,h3,h4,h5,h6⟩
  ·have:=hcon t ht;omega
  ·obtain⟨h7,h8⟩:=pZ h2
   have hoff:bj N (res.take i) q=bj N res q:=by unfold bj;rw[List.take_take,Nat.min_eq_left (by omega)]
   have h9:t=bj N res q+k:=by rw[h6];exact congrArg (· +k) hoff
   exact⟨q,r',k,x,by omega,hanc q h3,h8,h4,h9,pw hI.closed htab ha hi hr hun h3 h8 (List.getElem?_eq_some_iff.1 h4).1 (by rw[←h9];exact h5),hxo⟩
 have halive: ∀ t,jq m res (fun q=>q==i||L q) t→jq m res L t∧r.oV≠some t:=fun t h=>⟨fun i' r' h1 h2 h3=>h i' r' h1 (by simp[h2]) h3,h i r hi (by simp) hr⟩
 have hokOld: ∀ t x,hp[t]? =some (some x)→(x.own=true∨x.live)→ ∀ a,(θ t).base=some a→ ∀ t' a',r.oV=some t'→(θ t').base=some a'→a'.block≠a.block:=fun t x ht hl a ha t' a' ht' ha'=>by
  obtain⟨q,r',k,x',h1,h2,h3,h4,rfl,h6,h7⟩:=hused t' ht'
  exact hI.rI q r' k x' h1 h2 h3 h4 h6 t x ht (.inl ⟨h7,hl⟩) a' a ha' ha
 have hokNew: ∀ q r' k x,q<m→L q=true→res[q]? =some r'→r'.news[k]? =some x→jq m res L (bj N res q+k)→r.oV≠some (bj N res q+k)→(x.own=true∨x.live)→ ∀ a,(θ (bj N res q+k)).base=some a→ ∀ t' a',r.oV=some t'→(θ t').base=some a'→a'.block≠a.block:=
  fun q r' k x h1 h2 h3 h4 h5 h6 hl a ha t' a' ht' ha'=>by
  obtain⟨q',r2,k',x',g1,g2,g3,g4,rfl,g6,g7⟩:=hused t' ht'
  refine hI.ne q' q r2 r' k' k x' x g1 h1 g2 h2 g3 h3 g4 h4 ?_ g6 h5 g7 hl a' a ha' ha
  grind
 have hnewblk: ∀ k x a,r.news[k]? =some x→x.own=true→(nw k).base=some a→w.heap.size≤a.block∨ ∃ t a',r.oV=some t∧(θ t).base=some a'∧a'.block=a.block:=fun k x a hk ho1 hb=>by
  rcases(hnews k x hk).2 with⟨-,h1⟩|⟨h1, -⟩
  ·exact h1 a hb
  ·rw[ho1]at h1;cases h1
 have hnewal: ∀ k x a,r.news[k]? =some x→(x.own=true∨x.live)→(nw k).base=some a→x.own=true∨ ∃ y a',y.own=false∧y.live∧a'.block=a.block∧
   ((∃ s,hp[s]? =some (some y)∧(θ s).base=some a')∨ ∃ q r' k',q<m∧L q=true∧res[q]? =some r'∧r'.news[k']? =some y∧jq m res L (bj N res q+k')∧(θ (bj N res q+k')).base=some a'):=fun k x a hk hl hb=>by
  rcases(hnews k x hk).2 with⟨h1, -⟩|⟨h1,s,y,h2,h3,h4⟩
  ·exact .inl h1
  ·obtain⟨h5,h6⟩:=h4 (hl.resolve_left (by rw[h1];simp))
   obtain⟨a',h7,h8⟩:=h6 a hb
   refine .inr ⟨y,a',h3,h5,h8, ?_⟩
   rcases gi h2 with⟨g1, -⟩|⟨q,r',k',g2,g3,g4,g5,g6⟩
   ·exact .inl ⟨s,g1,h7⟩
   ·obtain⟨g7,g8⟩:=pZ g2
    have hoff:bj N (res.take i) q=bj N res q:=by unfold bj;rw[List.take_take,Nat.min_eq_left (by omega)]
    have g9:s=bj N res q+k':=by rw[g6];exact congrArg (· +k') hoff
    exact .inr ⟨q,r',k',by omega,hanc q g3,g8,g4,pw hI.closed htab ha hi hr hun g3 g8 (List.getElem?_eq_some_iff.1 g4).1 (by rw[←g9];exact g5),by rw[←g9];exact h7⟩
 have holdblk: ∀ q r' k x a,q<m→L q=true→res[q]? =some r'→r'.news[k]? =some x→jq m res L (bj N res q+k)→(x.own=true∨x.live)→(θ (bj N res q+k)).base=some a→a.block<w.heap.size:=fun q r' k x a h1 h2 h3 h4 hal hl h5=>
  ((hI.op q r' h1 h2 h3 θ (bX.refl _ _)).2 k x h4 hal).lt h5 hl
 have hneq: ∀ q,L q=true→q≠i:=fun q hq e=>by subst e;rw[hun]at hq;cases hq
 have hdst:dS ops i=o.dst:=by unfold dS;rw[ho];rfl
 have hsz':base≤w'.heap.size:=Nat.le_trans hI.sz hbel.size
 refine⟨_,w',θ2,hst,hbel,fun t ht=>h2N t ht,⟨by rw[ye];exact hI.size,fun θ' hs'=> ?_,fun q r' hq hLq hr' θ' hs'=> ?_,fun q q' r1 r2 k k' x x' hq hq' hLq hLq' hr1 hr2 hk hk' hne hal hal' hown hl a a' hb hb'=> ?_,
  fun q r1 k x hq hLq hr1 hk hal t x' ht hl a a' hb hb'=> ?_,fun q r' hq hLq hr' p hp'=> ?_,hI.gX.below hI.gb hbel,hI.gb,hsz'⟩⟩
 ·obtain⟨h1,h2⟩:=hI.ae θ' (fun t ht=>by rw[hs' t ht];exact h2N t ht)
  refine⟨⟨fun t x ht=>(h1.vw t x ht).kept (ok:=fun j=> ∀ t' a',r.oV=some t'→(θ t').base=some a'→a'.block≠j) hkeep (fun hl a ha=>hokOld t x ht hl a (by rw[←h2N t (List.getElem?_eq_some_iff.1 ht).1,←hs' t (List.getElem?_eq_some_iff.1 ht).1];exact ha)),h1.ne⟩,fun j v hj hd=> ?_⟩
  rw[jA,if_neg (by rw[←hdst];exact hd i hi (by simp))]
  grind
 ·simp only[Bool.or_eq_true,beq_iff_eq]at hLq
  by_cases hqi:q=i
  ·subst hqi
   rw[hr]at hr';cases hr'
   have hA:bX (Ai N res r.jt) θ θ':=fun t ht=>by
    rw[hs' t ?_]
    ·exact h2A t ht
    ·rcases ht with ht|⟨p,h1,h2⟩
     ·exact .inl ht
     ·exact .inr ⟨p, .inr h1,h2⟩
   have hnw': ∀ k,k<r.news.length→θ' (bj N res q+k)=nw k:=fun k hk=>by
    have:=hin q r k hr hk
    rw[hs' _ (.inr ⟨q, .inl rfl,this.1,this.2⟩)]
    exact h2i k hk
   obtain⟨h1,h2, -⟩:=hfin θ' hA hnw'
   refine⟨fun d hd hdl=> ?_,fun k x hk hal=> ?_⟩
   ·rw[jA,if_pos (by rw[←hdst];exact hd),if_pos (by rw[hI.size];exact hdl),h1]
   grind
  ·have hLq':=hLq.resolve_left hqi
   have hA:bX (Aq N res r'.jt q) θ θ':=fun t ht=>by
    rw[hs' t ht]
    rcases ht with ht|⟨p,h1,h2,h3⟩
    ·exact h2N t ht
    ·simp only[θ2]
     rw[if_neg]
     rintro ⟨h4,h5⟩
     have hpi:=qO h2 h3 h4 h5
     subst hpi
     rcases h1 with rfl|h1
     ·exact hqi rfl
     ·exact hneq p (hI.closed q r' hq hLq' hr' p h1) rfl
   obtain⟨h1,h2⟩:=hI.op q r' hq hLq' hr' θ' hA
   refine⟨fun d hd hdl=> ?_,fun k x hk hal=> ?_⟩
   ·grind [Ak,jA]
   ·obtain⟨hal1,hal2⟩:=halive _ hal
    have h4:=h2 k x hk hal1
    rw[h2o q r' k hqi hr' (List.getElem?_eq_some_iff.1 hk).1]
    exact h4.kept (ok:=fun j=> ∀ t' a',r.oV=some t'→(θ t').base=some a'→a'.block≠j) hkeep (fun hl a ha=>hokNew q r' k x hq hLq' hr' hk hal1 hal2 hl a ha)
 ·simp only[Bool.or_eq_true,beq_iff_eq]at hLq hLq'
  have hkl:=(List.getElem?_eq_some_iff.1 hk).1
  have hkl':=(List.getElem?_eq_some_iff.1 hk').1
  by_cases hqi:q=i<;>by_cases hqi':q'=i
  ·subst hqi hqi'
   grind
  ·subst hqi
   rw[hr]at hr1;cases hr1
   rw[h2i k hkl]at hb
   rw[h2o q' r2 k' hqi' hr2 hkl']at hb'
   obtain⟨hal1,hal2⟩:=halive _ hal'
   have h2:=holdblk q' r2 k' x' a' hq' (hLq'.resolve_left hqi') hr2 hk' hal1 hl hb'
   rcases hnewblk k x a hk hown hb with h1|⟨t,a2,h1,h3,h4⟩
   ·omega
   grind
  ·subst hqi'
   rw[hr]at hr2;cases hr2
   rw[h2i k' hkl']at hb'
   rw[h2o q r1 k hqi hr1 hkl]at hb
   obtain⟨hal1,hal2⟩:=halive _ hal
   have h2:=holdblk q r1 k x a hq (hLq.resolve_left hqi) hr1 hk hal1 (.inl hown) hb
   rcases hnewal k' x' a' hk' hl hb' with hown'|⟨y,a2,g1,g2,g3,g4⟩
   ·rcases hnewblk k' x' a' hk' hown' hb' with h1|⟨t,a2,h1,h3,h4⟩
    ·omega
    ·rw[←h4];exact(hokNew q r1 k x hq (hLq.resolve_left hqi) hr1 hk hal1 hal2 (.inl hown) a hb t a2 h1 h3).symm
   ·rw[←g3]
    rcases g4 with⟨s,g4,g5⟩|⟨q2,r3,k2,g4,g5,g6,g7,g8,g9⟩
    ·exact hI.rI q r1 k x hq (hLq.resolve_left hqi) hr1 hk hal1 s y g4 (.inl ⟨hown, .inr g2⟩) a a2 hb g5
    ·refine hI.ne q q2 r1 r3 k k2 x y hq g4 (hLq.resolve_left hqi) g5 hr1 g6 hk g7 ?_ hal1 g8 hown (.inr g2) a a2 hb g9
     grind
  ·rw[h2o q r1 k hqi hr1 hkl]at hb
   rw[h2o q' r2 k' hqi' hr2 hkl']at hb'
   exact hI.ne q q' r1 r2 k k' x x' hq hq' (hLq.resolve_left hqi) (hLq'.resolve_left hqi') hr1 hr2 hk hk' hne (halive _ hal).1 (halive _ hal').1 hown hl a a' hb hb'
 ·simp only[Bool.or_eq_true,beq_iff_eq]at hLq
  have hkl:=(List.getElem?_eq_some_iff.1 hk).1
  have htl:=(List.getElem?_eq_some_iff.1 ht).1
  rw[h2N t htl]at hb'
  by_cases hqi:q=i
  ·subst hqi
   rw[hr]at hr1;cases hr1
   rw[h2i k hkl]at hb
   have hown1:x.own=true→a.block≠a'.block:=fun hown=>by
    have hl':x'.own=true∨x'.live:=by rcases hl with h|h;exact h.2;exact .inl h.1
    have h2:=((hI.ae θ (az.refl _ _)).1.vw t x' ht).lt hb' hl'
    rcases hnewblk k x a hk hown hb with h1|⟨t2,a2,h1,h3,h4⟩
    ·omega
    grind
   rcases hl with⟨h, -⟩|⟨hox,hlx⟩
   ·exact hown1 h
   ·rcases hnewal k x a hk hlx hb with hown'|⟨y,a2,g1,g2,g3,g4⟩
    ·exact hown1 hown'
    ·rw[←g3]
     rcases g4 with⟨s,g4,g5⟩|⟨q2,r3,k2,g4,g5,g6,g7,g8,g9⟩
     ·exact((hI.ae θ (az.refl _ _)).1.ne t s x' y ht g4 (fun e=>by subst e;rw[ht]at g4;cases g4;rw[hox]at g1;cases g1) hox (.inr g2) a' a2 hb' g5).symm
     ·exact hI.rI q2 r3 k2 y g4 g5 g6 g7 g8 t x' ht (.inr ⟨hox, .inr g2⟩) a2 a' g9 hb'
  ·rw[h2o q r1 k hqi hr1 hkl]at hb
   exact hI.rI q r1 k x hq (hLq.resolve_left hqi) hr1 hk (halive _ hal).1 t x' ht hl a a' hb hb'
 ·simp only[Bool.or_eq_true,beq_iff_eq]at hLq⊢
  by_cases hqi:q=i
  ·grind
  ·exact .inr (hI.closed q r' hq (hLq.resolve_left hqi) hr' p hp')
def VS (ops:Array Oper):Nat→Array Bool→List Nat→Prop
 |0,_,σ=>σ=[]
 |n+1,L,σ=>(Region.ready .any ops L=[]∧σ=[])∨ ∃ i σ',i∈Region.ready .any ops L∧σ=i::σ'∧VS ops n (L.setIfInBounds i true) σ'
theorem D1: ∀ (fuel t:Nat) (L:Array Bool) (acc:List Nat), ∃ σ,Region.linearise.go .any ops fuel t L acc=acc.reverse++σ∧VS ops fuel L σ
 |0,t,L,acc=>⟨[],by simp[Region.linearise.go],rfl⟩
 |fuel+1,t,L,acc=>by
  simp only[Region.linearise.go]
  split
  ·rename_i i hi
   obtain⟨σ,h1,h2⟩:=D1 fuel _ (L.setIfInBounds i true) (i::acc)
   refine⟨i::σ,by rw[h1];simp, .inr ⟨i,σ,List.mem_of_getElem? hi,rfl,h2⟩⟩
  ·rename_i hn
   refine⟨[],by simp, .inl ⟨?_,rfl⟩⟩
   have h1:=List.getElem?_eq_none_iff.1 hn
   rcases Nat.eq_zero_or_pos (Region.ready .any ops L).length with h2|h2
   ·simp_all
   ·exact absurd (Nat.mod_lt t h2) (Nat.not_lt.2 h1)
theorem ff {L:Array Bool} {i:Nat}:i∈Region.ready .any ops L↔ ∃ o,ops[i]? =some o∧L.getD i true=false∧ ∀ j∈bC o,L.getD j false=true:=by
 unfold Region.ready
 rw[List.mem_filter,List.mem_range]
 constructor
 ·rintro ⟨h1,h2⟩
  have ho:ops[i]? =some ops[i]:=Array.getElem?_eq_getElem h1
  simp only[ho,Option.map_some,Option.getD_some,Bool.and_eq_true,Bool.not_eq_true']at h2
  refine⟨_,ho,h2.1,fun j hj=> ?_⟩
  simp only[bC,List.mem_map,List.mem_filter]at hj
  obtain⟨e,⟨he,hb⟩,rfl⟩:=hj
  have:=Array.all_eq_true_iff_forall_mem.1 h2.2 e (Array.mem_toList_iff.1 he)
  simpa[hb]using this
 ·rintro ⟨o,ho,h1,h2⟩
  refine⟨(Array.getElem?_eq_some_iff.1 ho).1, ?_⟩
  simp only[ho,Option.map_some,Option.getD_some,h1,Bool.not_false,Bool.true_and]
  rw[Array.all_eq_true_iff_forall_mem]
  intro e he
  cases hb:Region.binds .any e with
  |false=>simp
  |true=>
   have:=h2 e.on (by simp only[bC,List.mem_map,List.mem_filter];exact⟨e,⟨Array.mem_toList_iff.2 he,hb⟩,rfl⟩)
   simp[this]
theorem mY (L:Array Bool) (i q:Nat) (b:Bool) (hi:i<L.size):(L.setIfInBounds i true).getD q b=if q=i then true else L.getD q b:=by
 simp only[Array.getD_eq_getD_getElem?,Array.getElem?_setIfInBounds]
 grind
theorem AM (he:cc ops m F kt=true): ∀ (n:Nat) (j:Nat) (L:Array Bool) (σ:List Nat),m+kt≤j→j+n=ops.size→L.size=ops.size→(∀ q,L.getD q true=true↔(q<j∨ops.size≤q))→VS ops n L σ→σ=List.range' j n
 |0,j,L,σ,hm,hj,hs,hL,h=>by rw[h];rfl
 |n+1,j,L,σ,hm,hj,hs,hL,h=>by
  have hLf: ∀ q,q<ops.size→(L.getD q false=true↔q<j):=fun q hq=>by
   grind
  have hjr:j∈Region.ready .any ops L:=by
   have ho:ops[j]? =some (ops[j]'(by omega)):=Array.getElem?_eq_getElem _
   refine ff.2 ⟨_,ho, ?_,fun q hq=> ?_⟩
   ·grind
   grind [iT]
  rcases h with⟨h1, -⟩|⟨i,σ',h1,rfl,h2⟩
  ·rw[h1]at hjr;cases hjr
  ·obtain⟨o,ho,h3,h4⟩:=ff.1 h1
   have hil:=(Array.getElem?_eq_some_iff.1 ho).1
   have hij:j≤i:=by
    grind
   have hij':i=j:=by
    rcases Nat.lt_or_ge j i with h5|h5
    ·have h6:=pM (L:=fun q=>L.getD q false) he ho (by omega) (fun q oq p hq hoq hp=>by
      have hqs:=(Array.getElem?_eq_some_iff.1 hoq).1
      have h6:=(hLf q hqs).1 hq
      have h7:=iT he hoq hp
      exact(hLf p (by omega)).2 (by omega)) h4 _ j h5 (Nat.le_refl _) (by rw[show decide (i<m+kt)=false by rw[decide_eq_false_iff_not];omega];rfl)
     grind
    ·omega
   subst hij'
   rw[List.range'_succ]
   congr 1
   refine AM he n (i+1) _ σ' (by omega) (by omega) (by simp[hs]) (fun q=> ?_) h2
   rw[mY _ _ _ _ (by omega)]
   grind
theorem count_set {L:Array Bool} {i n N:Nat} (hs:L.size=N) (hi:i<N) (h3:L.getD i false=false) (hc:L.toList.count false=n+1):(L.setIfInBounds i true).toList.count false=n:=by
 rw[Array.toList_setIfInBounds]
 have hli:L.toList[i]? =some false:=by
  simp_all
 grind
theorem C4 (he:cc ops m F kt=true) (htab: ∀ i,i<m→uH P gl ops m l hp res i): ∀ (n:Nat) (L:Array Bool) (σ:List Nat) (θ:Th) (T:Array Value) (w:World),L.size=ops.size→(∀ q,L.getD q false=true→q<m)→L.toList.count false=n→VS ops n L σ→
  yW P gl base ops m l hp res (fun q=>L.getD q false) θ T w→
  ∃ n' L' σ' T' w' θ',Steps P (lone (au rx fn T (.inRegion ops σ::k0)) cs w) (lone (au rx fn T' (.inRegion ops σ'::k0)) cs w')∧Below base w w'∧az hp.length θ θ'∧L'.size=ops.size∧(∀ q,L'.getD q false=true→q<m)∧L'.toList.count false=n'∧VS ops n' L' σ'∧
    yW P gl base ops m l hp res (fun q=>L'.getD q false) θ' T' w'∧ ∀ i r,σ'=i::r→m≤i:=by
 intro n
 induction n with
 |zero=>
  intro L σ θ T w hs hL hc hv hI
  exact⟨0,L,σ,T,w,θ, .refl _ _,Below.refl _ _,az.refl _ _,hs,hL,hc,hv,hI,fun i r e=>by rw[show σ=[]from hv]at e;cases e⟩
 |succ n ih=>
  intro L σ θ T w hs hL hc hv hI
  rcases hv with⟨h1,rfl⟩|⟨i,σ',h1,rfl,h2⟩
  ·exact⟨n+1,L,[],T,w,θ, .refl _ _,Below.refl _ _,az.refl _ _,hs,hL,hc, .inl ⟨h1,rfl⟩,hI,fun i r e=>by cases e⟩
  ·rcases Nat.lt_or_ge i m with him|him
   ·obtain⟨o,ho,h3,h4⟩:=ff.1 h1
    have hil:=(Array.getElem?_eq_some_iff.1 ho).1
    have hsz:L.getD i true=L.getD i false:=by simp[Array.getD_eq_getD_getElem?,Array.getElem?_eq_getElem (show i<L.size by omega)]
    rw[hsz]at h3
    have hr: ∃ r,res[i]? =some r:=by
     obtain⟨_,_,_,_,_,r,_,_,_,hr,_⟩:=htab i him
     exact⟨r,hr⟩
    obtain⟨r,hr⟩:=hr
    obtain⟨T1,w1,θ1,hst,hb1,hs1,hI1⟩:=hI.next (rx:=rx) (fn:=fn) (k0:=k0) (cs:=cs) (rest:=σ') he htab him ho hr h3 h4 (fun j hj=>hL j hj)
    have hfun:(fun q=>q==i||L.getD q false)=(fun q=>(L.setIfInBounds i true).getD q false):=funext fun q=>by
     rw[mY _ _ _ _ (by omega)]
     grind
    rw[hfun]at hI1
    obtain⟨n',L',σ2,T2,w2,θ2,hst2,hb2,hs2,hz⟩:=ih (L.setIfInBounds i true) σ' θ1 T1 w1 (by simp[hs]) (fun q hq=>by
     rw[mY _ _ _ _ (by omega)]at hq
     split at hq
     ·omega
     ·exact hL q hq) (count_set hs hil h3 hc) h2 hI1
    exact⟨n',L',σ2,T2,w2,θ2,hst.trans hst2,hb1.trans hb2,hs1.trans hs2,hz⟩
   ·exact⟨n+1,L,i::σ',T,w,θ, .refl _ _,Below.refl _ _,az.refl _ _,hs,hL,hc, .inr ⟨i,σ',h1,rfl,h2⟩,hI,fun i' r e=>by cases e;exact him⟩
end
end Go.Sx
namespace Go.Sx
open Go.RowKit
section
variable {hw:List Hint} {P:Program} {gl:List (Nat×Vw)} {base:Nat} {ops:Array Oper} {F:List Nat} {kt:Nat} {m:Nat} {l:List (Option SV)} {hp:List (Option Vw)} {res:List iF} {L:Nat→Bool} {θ:Th} {T:Array Value} {w:World} {rx:Rx} {fn:FuncId} {k0:List Item} {cs:List Frame}
structure iE (P:Program) (gl:List (Nat×Vw)) (base:Nat) (ops:Array Oper) (F:List Nat) (res:List iF) (l:List (Option SV)) (hp:List (Option Vw)) (L:Nat→Bool) (θ:Th) (T:Array Value) (w:World):Prop where
 pre:LX P gl base θ l hp T w
 fl: ∀ p,p∈F→L p=true→ ∀ d,dS ops p=some d→d<l.length→ ∀ r,res[p]? =some r→ ∀ θ',az hp.length θ θ'→T[d]? =some (den θ' r.v)
 cN: ∀ p d,p∈F→dS ops p=some d→ ∀ v,l[d]? ≠some (some v)
structure Float (P:Program) (gl:List (Nat×Vw)) (ops:Array Oper) (res:List iF) (l:List (Option SV)) (hp:List (Option Vw)) (F0:List Nat) (p:Nat):Prop where
 ex: ∃ o r qs g1 g2,ops[p]? =some o∧res[p]? =some r∧o.guard=none∧r.news=[]∧iH P gl (kx ops res (D4 F0 o) l) hp g1 o.op=some (qs,g2,r.v)∧bE qs
theorem jw {hw:List Hint} {F0:List Nat}: ∀ {F:List Nat} {ps:List Prop},zg hw P gl ops res l hp F0 F=some ps→bE ps→ ∀ p,p∈F→Float P gl ops res l hp F0 p
 |[],ps,h,hps,p,hp'=>by cases hp'
 |q::F,ps,h,hps,p,hp'=>by
  simp only[zg]at h
  split at h
  ·rename_i o r ho hr
   split at h
   ·rename_i hg
    simp only[Bool.and_eq_true,Option.isNone_iff_eq_none,List.isEmpty_iff]at hg
    split at h
    ·rename_i qs g2 v hv
     split at h
     ·rename_i rs hrs
      simp only[Option.some.injEq]at h
      subst h
      obtain⟨rfl,h2⟩:=hps
      obtain⟨h3,h4⟩:=aK h2
      rcases List.mem_cons.1 hp' with rfl|h5
      ·exact⟨o,r,qs,hw,g2,ho,hr,hg.1,hg.2,hv,h3⟩
      ·exact jw hrs h4 p h5
     ·cases h
    ·cases h
   ·cases h
  ·cases h
theorem cF {o:Oper} {y:Nat→Option Bool} (h:o.guard=none):Region.wanted o y=true:=by unfold Region.wanted;rw[h]
theorem fT: ∀ (F:List Nat) (l:List (Option SV)),(kx ops res F l).length=l.length
 |[],l=>rfl
 |p::F,l=>by
  simp only[kx]
  split
  ·rw[fT F];simp
  ·exact fT F l
theorem om: ∀ {F:List Nat} {l:List (Option SV)} {j:Nat} {v:SV},(kx ops res F l)[j]? =some (some v)→(∃ p,p∈F∧ ∃ r,dS ops p=some j∧j<l.length∧res[p]? =some r∧r.v=v)∨l[j]? =some (some v)
 |[],l,j,v,h=> .inr h
 |p::F,l,j,v,h=>by
  simp only[kx]at h
  split at h
  ·rename_i d r hd hr
   rcases om h with⟨q,hq,r',h1,h2,h3⟩|h1
   all_goals grind
  ·rcases om h with⟨q,hq,r',h1⟩|h1
   all_goals grind
theorem iE.known {F':List Nat} (hI:iE P gl base ops F res l hp L θ T w) (hs: ∀ q,q∈F'→q∈F∧L q=true):LX P gl base θ (kx ops res F' l) hp T w:=by
 refine⟨fun θ' hs'=>⟨(hI.pre.inv θ' hs').1, ?_,fun j v hj=> ?_⟩,hI.pre.kn,hI.pre.gX,hI.pre.gb,hI.pre.sz⟩
 ·rw[fT];exact(hI.pre.inv θ' hs').2.1
 ·rcases om hj with⟨p,hp',r,h1,h2,h3,rfl⟩|h
  ·obtain⟨h4,h5⟩:=hs p hp'
   exact hI.fl p h4 h5 j h1 h2 r h3 θ' hs'
  ·exact(hI.pre.inv θ' hs').2.2 j v h
theorem iE.float {p:Nat} {rest:List Nat} (hI:iE P gl base ops F res l hp L θ T w) (he:cc ops m F kt=true) (hF: ∀ p,p∈F→p<m) (hp':p∈F) (hf:Float P gl ops res l hp F p) (hneed: ∀ o,ops[p]? =some o→ ∀ q,q∈bC o→L q=true):
  ∃ T' w',Steps P (lone (au rx fn T (.inRegion ops (p::rest)::k0)) cs w) (lone (au rx fn T' (.inRegion ops rest::k0)) cs w')∧Below base w w'∧iE P gl base ops F res l hp (fun q=>q==p||L q) θ T' w':=by
 obtain⟨o,r,qs,g1,g2,ho,hr,hg,hn,hv,hqs⟩:=hf.ex
 have hdst:dS ops p=o.dst:=by unfold dS;rw[ho];rfl
 obtain⟨rv,w',nw,hrun,hbel, -,hfin⟩:=e7 (ds:=[]) (hs:=g1) (o:=o) (ps:=qs) (hs':=g2) (e:= .val r.v hp) (hI.known (F':=D4 F o) (fun q hq=>by
  obtain⟨h1,h2⟩:=List.mem_filter.1 hq
  exact⟨h1,hneed o ho q (List.contains_iff_mem.1 h2)⟩)) (by rw[hv];rfl) hqs
 have hst:=eu (P:=P) (rx:=rx) (fn:=fn) (T:=T) (k:=k0) (cs:=cs) (rest:=rest) ho (cF hg) hrun
 have hfin': ∀ θ',az hp.length θ θ'→bm θ' base hp w'∧rv=den θ' r.v:=fun θ' hs=>hfin θ' hs (fun k hk=>by omega)
 refine⟨_,w', .one hst,hbel,⟨⟨fun θ' hs=>⟨(hfin' θ' hs).1,by rw[ye];exact(hI.pre.inv θ' hs).2.1,fun j v hj=> ?_⟩,hI.pre.kn,hI.pre.gX.below hI.pre.gb hbel,hI.pre.gb,Nat.le_trans hI.pre.sz hbel.size⟩,fun q hq hLq d hd hdl r' hr' θ' hs=> ?_,hI.cN⟩⟩
 ·rw[jA,if_neg]
  ·exact(hI.pre.inv θ' hs).2.2 j v hj
  ·intro e
   exact hI.cN p j hp' (by rw[hdst];exact e) v hj
 ·by_cases hqp:q=p
  ·subst hqp
   rw[hr]at hr';cases hr'
   rw[jA,if_pos (by rw[←hdst];exact hd),if_pos (by rw[(hI.pre.inv θ (az.refl _ _)).2.1];exact hdl),(hfin' θ' hs).2]
  ·have hLq':L q=true:=by simpa[hqp]using hLq
   rw[jA,if_neg (by rw[←hdst];exact Ak he (hF q hq) (hF p hp') hqp hd)]
   exact hI.fl q hq hLq' d hd hdl r' hr' θ' hs
theorem iE.tail {i:Nat} {o:Oper} {rest:List Nat} {ps:List Prop} {hs hs':List Hint} {hp':List (Option Vw)} (hI:iE P gl base ops F res l hp L θ T w) (ho:ops[i]? =some o) (hg:o.guard=none) (hd:o.dst=none)
  (hx:p0 P gl l hp hs o.op=some (ps,hs', .skip hp')) (hps:bE ps):
  hp.length=hp'.length∧ ∃ w',Steps P (lone (au rx fn T (.inRegion ops (i::rest)::k0)) cs w) (lone (au rx fn T (.inRegion ops rest::k0)) cs w')∧Below base w w'∧iE P gl base ops F res l hp' L θ T w':=by
 obtain⟨w',hrun,hbel,hlen,hfin⟩:=cS (ds:=[]) hI.pre hx hps
 have hst:=pt (P:=P) (rx:=rx) (fn:=fn) (T:=T) (k:=k0) (cs:=cs) (rest:=rest) ho (cF hg) hrun
 have hput:(Act.mk T []).put o.dst undef=⟨T,[]⟩:=by rw[hd];rfl
 rw[hput]at hst
 refine⟨hlen,w', .one hst,hbel,⟨⟨fun θ' hs=> ?_,fun t v ht=>(List.getElem?_eq_some_iff.1 ht).1,hI.pre.gX.below hI.pre.gb hbel,hI.pre.gb,Nat.le_trans hI.pre.sz hbel.size⟩,fun p hp2 hLp d hd' hdl r hr θ' hs=> ?_,hI.cN⟩⟩
 ·rw[←hlen]at hs
  exact⟨hfin θ' hs,(hI.pre.inv θ' hs).2⟩
 ·rw[←hlen]at hs
  exact hI.fl p hp2 hLp d hd' hdl r hr θ' hs
theorem iE.JL {i:Nat} {o:Oper} {rest:List Nat} {ps:List Prop} {hs hs':List Hint} {v:SV} {hp':List (Option Vw)} (hI:iE P gl base ops F res l hp L θ T w) (ho:ops[i]? =some o) (hg:o.guard=none) (hd: ∀ p,p∈F→dS ops p≠o.dst)
  (hx:p0 P gl l hp hs o.op=some (ps,hs', .val v hp')) (hps:bE ps):
  hp.length≤hp'.length∧ ∃ θ2 T' w',az hp.length θ θ2∧Steps P (lone (au rx fn T (.inRegion ops (i::rest)::k0)) cs w) (lone (au rx fn T' (.inRegion ops rest::k0)) cs w')∧Below base w w'∧iE P gl base ops F res (dX l o.dst v) hp' L θ2 T' w':=by
 obtain⟨rv,w',nw,hrun,hbel,hlen,hfin⟩:=cS (ds:=[]) hI.pre hx hps
 have hst:=eu (P:=P) (rx:=rx) (fn:=fn) (T:=T) (k:=k0) (cs:=cs) (rest:=rest) ho (cF hg) hrun
 let θ2:Th:=fun t=>if t<hp.length then θ t else nw (t-hp.length)
 have hs2:az hp.length θ θ2:=fun t ht=>by simp only[θ2,ht,if_true]
 have hn2: ∀ k,θ2 (hp.length+k)=nw k:=fun k=>by simp only[θ2,Nat.not_lt.2 (Nat.le_add_right _ _),if_false,Nat.add_sub_cancel_left]
 have hto: ∀ θ',az hp'.length θ2 θ'→az hp.length θ θ':=fun θ' hs=>hs2.trans (az.mono hs hlen)
 have hfin': ∀ θ',az hp'.length θ2 θ'→bm θ' base hp' w'∧rv=den θ' v:=fun θ' hs=>hfin θ' (hto θ' hs) (fun k hk=>by rw[hs _ hk];exact hn2 k)
 refine⟨hlen,θ2,_,w',hs2, .one hst,hbel,⟨⟨fun θ' hs=>⟨(hfin' θ' hs).1,(hI.pre.inv θ' (hto θ' hs)).2.set (hfin' θ' hs).2⟩,fun t v ht=>(List.getElem?_eq_some_iff.1 ht).1,hI.pre.gX.below hI.pre.gb hbel,hI.pre.gb,Nat.le_trans hI.pre.sz hbel.size⟩,fun p hp2 hLp d hd' hdl r hr θ' hs=> ?_,fun p d hpF hd' v'=> ?_⟩⟩
 ·rw[jA,if_neg (fun e=>hd p hp2 (by rw[hd',e]))]
  exact hI.fl p hp2 hLp d hd' (by unfold dX at hdl;split at hdl<;>simpa using hdl) r hr θ' (hto θ' hs)
 ·unfold dX
  have h0:=hI.cN p d hpF hd' v'
  grind
theorem iE.congr {L':Nat→Bool} (h: ∀ p,p∈F→L' p=true→L p=true) (hI:iE P gl base ops F res l hp L θ T w):iE P gl base ops F res l hp L' θ T w:=
 ⟨hI.pre,fun p hp' hL=>hI.fl p hp' (h p hp' hL),hI.cN⟩
theorem least {L:Nat→Bool}: ∀ (c:Nat),(∀ q,q<c→L q=true)∨ ∃ e,e<c∧L e=false∧ ∀ q,q<e→L q=true
 |0=> .inl (fun q hq=>by omega)
 |c+1=>by
  rcases least (L:=L) c with h|⟨e,h1,h2,h3⟩
  all_goals grind
theorem BG {L:Array Bool} {q N:Nat} (hs:L.size=N) (hq:q<N):L.getD q true=L.getD q false:=by
 simp_all
theorem xQ {L:Array Bool} {e:Nat} (he:cc ops m F kt=true) (hs:L.size=ops.size) (h1:e<ops.size) (h2:L.getD e false=false) (h3: ∀ q,q<e→L.getD q false=true):e∈Region.ready .any ops L:=by
 have ho:ops[e]? =some (ops[e]'h1):=Array.getElem?_eq_getElem _
 exact ff.2 ⟨_,ho,by rw[BG hs h1];exact h2,fun q hq=>h3 q (iT he ho hq)⟩
theorem EG {L:Array Bool} {n c:Nat} (hs:L.size=ops.size) (hc0:c≤ops.size) (hc:L.toList.count false=n) (h: ∀ q,q<ops.size→(L.getD q false=true↔q<c)):c+n=ops.size:=by
 have h1:L.toList=List.replicate c true++List.replicate (ops.size-c) false:=by
  apply List.ext_getElem?
  intro q
  rw[List.getElem?_append]
  simp only[List.length_replicate,List.getElem?_replicate]
  by_cases hq2:q<ops.size
  ·have h4:L.toList[q]? =some (L.getD q false):=by
    simp_all
   grind
  grind
 grind
theorem Ct (he:cc ops m F kt=true) {n:Nat} {L:Array Bool} {σ:List Nat} (hs:L.size=ops.size) (hc:L.toList.count false=n) (hv:VS ops n L σ) (hall: ∀ q,q<m+kt→L.getD q false=true) (h2: ∀ q,m+kt≤q→L.getD q false=false):
  σ=List.range' (m+kt) (ops.size-(m+kt)):=by
 have hms:m+kt≤ops.size:=by simp only[cc,Bool.and_eq_true,decide_eq_true_eq]at he;exact he.2
 have hiff: ∀ q,q<ops.size→(L.getD q false=true↔q<m+kt):=fun q hq=>by
  grind
 have hcnt:=EG hs hms hc hiff
 have:=AM he n (m+kt) L σ (Nat.le_refl _) hcnt hs (fun q=>by
  rcases Nat.lt_or_ge q ops.size with hq|hq
  ·grind
  ·simp[Array.getD_eq_getD_getElem?,Array.getElem?_eq_none (show L.size≤q by omega)];omega) hv
 grind
theorem vY {L:Array Bool} {e:Nat} (h1:e<L.size) (h2:L.getD e false=false):L.toList.count false≠0:=by
 have h3:L[e]=false:=by simpa[Array.getD_eq_getD_getElem?,Array.getElem?_eq_getElem h1]using h2
 have h4:false∈L.toList:=by rw[←h3];simp
 grind
theorem C5 (he:cc ops m F kt=true) (hF: ∀ p,p∈F→p<m): ∀ (n:Nat) (L:Array Bool) (σ:List Nat) (j:Nat) (l:List (Option SV)) (hp:List (Option Vw)) (hs:List Hint) (θ:Th) (T:Array Value) (w:World) (qs:List Prop) (hs':List Hint) (l2:List (Option SV)) (hp2:List (Option Vw)),
  j≤kt→L.size=ops.size→L.toList.count false=n→VS ops n L σ→(∀ q,q<m→q∉F→L.getD q false=true)→(∀ q,m≤q→(L.getD q false=true↔q<m+j))→
  (∀ q oq p,L.getD q false=true→ops[q]? =some oq→p∈bC oq→L.getD p false=true)→
  rO hw P gl ops F res (kt-j) (m+j) l hp hs=some (qs,hs',l2,hp2)→bE qs→(∀ p,p∈F→Float P gl ops res l hp F p)→iE P gl base ops F res l hp (fun q=>L.getD q false) θ T w→
  hp.length≤hp2.length∧ ∃ θ2 T' w',az hp.length θ θ2∧Steps P (lone (au rx fn T (.inRegion ops σ::k0)) cs w) (lone (au rx fn T' (.inRegion ops (List.range' (m+kt) (ops.size-(m+kt)))::k0)) cs w')∧Below base w w'∧iE P gl base ops F res l2 hp2 (fun _=>true) θ2 T' w':=by
 have hms:m+kt≤ops.size:=by simp only[cc,Bool.and_eq_true,decide_eq_true_eq]at he;exact he.2
 have hend: ∀ (n:Nat) (L:Array Bool) (σ:List Nat) (j:Nat) (l:List (Option SV)) (hp:List (Option Vw)) (hs:List Hint) (θ:Th) (T:Array Value) (w:World) (qs:List Prop) (hs':List Hint) (l2:List (Option SV)) (hp2:List (Option Vw)),
  j≤kt→L.size=ops.size→L.toList.count false=n→VS ops n L σ→(∀ q,m≤q→(L.getD q false=true↔q<m+j))→
  rO hw P gl ops F res (kt-j) (m+j) l hp hs=some (qs,hs',l2,hp2)→iE P gl base ops F res l hp (fun q=>L.getD q false) θ T w→(∀ q,q<m+kt→L.getD q false=true)→
  hp.length≤hp2.length∧ ∃ θ2 T' w',az hp.length θ θ2∧Steps P (lone (au rx fn T (.inRegion ops σ::k0)) cs w) (lone (au rx fn T' (.inRegion ops (List.range' (m+kt) (ops.size-(m+kt)))::k0)) cs w')∧Below base w w'∧iE P gl base ops F res l2 hp2 (fun _=>true) θ2 T' w':=by
  intro n L σ j l hp hs θ T w qs hs' l2 hp2 hj hsz hc hv h2 hev hI hall
  have hjk:j=kt:=by
   rcases Nat.lt_or_ge j kt with h|h
   ·have:=(h2 (m+j) (by omega)).1 (hall (m+j) (by omega));omega
   ·omega
  subst hjk
  rw[Nat.sub_self]at hev
  simp only[rO,Option.some.injEq,Prod.mk.injEq]at hev
  obtain⟨-, -,rfl,rfl⟩:=hev
  have hσ:=Ct he hsz hc hv hall (fun q hq=>by
   cases hb:L.getD q false with
   |false=>rfl
   |true=>have:=(h2 q (by omega)).1 hb;omega)
  subst hσ
  exact⟨Nat.le_refl _,θ,T,w,az.refl _ _, .refl _ _,Below.refl _ _,hI.congr (fun p hp' _=>hall p (by have:=hF p hp';omega))⟩
 intro n
 induction n with
 |zero=>
  intro L σ j l hp hs θ T w qs hs' l2 hp2 hj hsz hc hv h1 h2 hcl hev hqs hfl hI
  rcases least (L:=fun q=>L.getD q false) (m+kt)with hall|⟨e,e1,e2,e3⟩
  all_goals grind [vY]
 |succ n ih=>
  intro L σ j l hp hs θ T w qs hs' l2 hp2 hj hsz hc hv h1 h2 hcl hev hqs hfl hI
  rcases least (L:=fun q=>L.getD q false) (m+kt)with hall|⟨e,e1,e2,e3⟩
  ·grind
  ·have her:=xQ he hsz (by omega) e2 e3
   rcases hv with⟨h3, -⟩|⟨i,σ',h3,rfl,h4⟩
   ·rw[h3]at her;cases her
   ·obtain⟨o,ho,h5,h6⟩:=ff.1 h3
    have hil:=(Array.getElem?_eq_some_iff.1 ho).1
    rw[BG hsz hil]at h5
    have hset: ∀ q,(L.setIfInBounds i true).getD q false=true↔(q=i∨L.getD q false=true):=fun q=>by
     rw[mY _ _ _ _ (by omega)]
     grind
    have hfun:(fun q=>(L.setIfInBounds i true).getD q false)=(fun q=>q==i||L.getD q false):=funext fun q=>by
     rw[mY _ _ _ _ (by omega)]
     by_cases hq:q=i
     ·subst hq;simp
     ·simp[hq]
    have hcl': ∀ q oq p,(L.setIfInBounds i true).getD q false=true→ops[q]? =some oq→p∈bC oq→(L.setIfInBounds i true).getD p false=true:=fun q oq p hq hoq hp'=>by
     grind
    have htl:m≤i→ ∀ q,q<i→(decide (i<m+kt)&&F.contains q)=false→L.getD q false=true:=fun hmi q hq hf=>
     pM (L:=fun q=>L.getD q false) he ho hmi hcl h6 _ q hq (Nat.le_refl _) hf
    rcases Nat.lt_or_ge i m with him|him
    ·
     have hiF:i∈F:=by
      grind
     obtain⟨T1,w1,hst,hb1,hI1⟩:=hI.float (fn:=fn) (k0:=k0) (cs:=cs) (rest:=σ') he hF hiF (hfl i hiF) (fun o' ho' q hq=>by rw[ho]at ho';cases ho';exact h6 q hq)
     rw[←hfun]at hI1
     obtain⟨hl,θ2,T2,w2,hsm,hst2,hb2,hI2⟩:=ih (L.setIfInBounds i true) σ' j l hp hs θ T1 w1 qs hs' l2 hp2 hj (by simp[hsz]) (count_set hsz hil h5 hc) h4 (fun q hq hqF=>(hset q).2 (.inr (h1 q hq hqF)))
      (fun q hq=>by rw[hset];constructor
                    ·rintro (h|h)
                     ·omega
                     ·exact(h2 q hq).1 h
                    ·intro h;exact .inr ((h2 q hq).2 h)) hcl' hev hqs hfl hI1
     exact⟨hl,θ2,T2,w2,hsm,hst.trans hst2,hb1.trans hb2,hI2⟩
    ·rcases Nat.lt_or_ge i (m+kt)with hik|hik
     ·have hij:i=m+j:=by
       rcases Nat.lt_trichotomy i (m+j)with h|h|h
       ·grind
       ·exact h
       grind
      subst hij
      rw[show kt-j=(kt-(j+1))+1 by omega]at hev
      simp only[rO,ho]at hev
      split at hev
      ·rename_i hg
       simp only[Option.isNone_iff_eq_none]at hg
       split at hev
       ·rename_i ps1 hs1 hp1 hx
        split at hev
        ·rename_i hgd
         simp only[Option.isNone_iff_eq_none]at hgd
         split at hev
         ·rename_i qs1 rs1 hs2 l3 hp3 hst1 hev1
          simp only[Option.some.injEq,Prod.mk.injEq]at hev
          obtain⟨rfl,rfl,rfl,rfl⟩:=hev
          obtain⟨g1,g2⟩:=aK hqs
          obtain⟨g3,g4⟩:=aK g2
          obtain⟨hl,w1,hst,hb1,hI1⟩:=hI.tail (fn:=fn) (k0:=k0) (cs:=cs) (rest:=σ') ho hg hgd hx g1
          have hI1':iE P gl base ops F res l hp1 (fun q=>(L.setIfInBounds (m+j) true).getD q false) θ T w1:=hI1.congr (fun p hp' h=>by
           rcases(hset p).1 h with h|h
           ·have:=hF p hp';omega
           ·exact h)
          obtain⟨hl2,θ2,T2,w2,hsm,hst2,hb2,hI2⟩:=ih (L.setIfInBounds (m+j) true) σ' (j+1) l hp1 hs1 θ T w1 rs1 hs2 l3 hp3 (by omega) (by simp[hsz]) (count_set hsz hil h5 hc) h4 (fun q hq hqF=>(hset q).2 (.inr (h1 q hq hqF)))
           (fun q hq=>by rw[hset,h2 q hq];omega) hcl' hev1 g4 (jw hst1 g3) hI1'
          exact⟨by omega,θ2,T2,w2,by rw[hl];exact hsm,hst.trans hst2,hb1.trans hb2,hI2⟩
         ·cases hev
        ·cases hev
       ·rename_i ps1 hs1 v1 hp1 hx
        split at hev
        ·rename_i hgd
         have hgd': ∀ p,p∈F→dS ops p≠o.dst:=fun p hp'=>by simpa using List.all_eq_true.1 hgd p hp'
         split at hev
         ·rename_i qs1 rs1 hs2 l3 hp3 hst1 hev1
          simp only[Option.some.injEq,Prod.mk.injEq]at hev
          obtain⟨rfl,rfl,rfl,rfl⟩:=hev
          obtain⟨g1,g2⟩:=aK hqs
          obtain⟨g3,g4⟩:=aK g2
          obtain⟨hl,θ1,T1,w1,hsm1,hst,hb1,hI1⟩:=hI.JL (fn:=fn) (k0:=k0) (cs:=cs) (rest:=σ') ho hg hgd' hx g1
          have hI1':iE P gl base ops F res (dX l o.dst v1) hp1 (fun q=>(L.setIfInBounds (m+j) true).getD q false) θ1 T1 w1:=hI1.congr (fun p hp' h=>by
           rcases(hset p).1 h with h|h
           ·have:=hF p hp';omega
           ·exact h)
          obtain⟨hl2,θ2,T2,w2,hsm,hst2,hb2,hI2⟩:=ih (L.setIfInBounds (m+j) true) σ' (j+1) (dX l o.dst v1) hp1 hs1 θ1 T1 w1 rs1 hs2 l3 hp3 (by omega) (by simp[hsz]) (count_set hsz hil h5 hc) h4 (fun q hq hqF=>(hset q).2 (.inr (h1 q hq hqF)))
           (fun q hq=>by rw[hset,h2 q hq];omega) hcl' hev1 g4 (jw hst1 g3) hI1'
          exact⟨by omega,θ2,T2,w2,hsm1.trans (hsm.mono hl),hst.trans hst2,hb1.trans hb2,hI2⟩
         ·cases hev
        ·cases hev
       ·cases hev
      ·cases hev
     grind
theorem Gp {X:Cx} {fr:iD} {bo:List iD} {id:Nat} {k:List Item} {hs hs1 hs2:List Hint} {ps qs rs:List Prop} {l2:List (Option SV)} {hp2:List (Option Vw)}
  (htd:fr.todo= .code (.region id ops true)::k) (he:cc ops m F kt=true) (hFm:(F.all fun p=>decide (p<m))=true) (hmix:X.P.follows .mixedOrders=true) (hev:qv X.P X.gl ops m fr.tmps hp m [] hs=some (ps,hs1,res)) (hps:bE ps)
  (hstab:zg hw X.P X.gl ops res (fw ops res (fun q=> !F.contains q) (fun _=>false) m fr.tmps) (gW hp res (fun _=>true)) F F=some qs) (hqs:bE qs)
  (hB:rO hw X.P X.gl ops F res kt m (fw ops res (fun q=> !F.contains q) (fun _=>false) m fr.tmps) (gW hp res (fun _=>true)) hs1=some (rs,hs2,l2,hp2)) (hrs:bE rs)
  (hk:Ok X ⟨{fr with tmps:=kx ops res F l2,todo:= .inRegion ops (List.range' (m+kt) (ops.size-(m+kt)))::k}::bo,hp2⟩):Ok X ⟨fr::bo,hp⟩:=by
 have hF: ∀ p,p∈F→p<m:=fun p hp'=>by simpa using List.all_eq_true.1 hFm p hp'
 have hfl:=jw hstab hqs
 have htab: ∀ i,i<m→uH X.P X.gl ops m fr.tmps hp res i:=fun i hi=>qW hev hps i (by simp) (by simpa using hi)
 have hlen:res.length=m:=by
  grind [dQ]
 have ha:=HF he htab
 have hms:m+kt≤ops.size:=by simp only[cc,Bool.and_eq_true,decide_eq_true_eq]at he;exact he.2
 intro θ fr0 ms w hh
 obtain⟨T,rfl,hpre,hrest⟩:=hh.pre
 obtain⟨σ,hσ1,hσ2⟩:=D1 (ops:=ops) ops.size (w.tape w.drawn (.order fr.fn id)) (Array.replicate ops.size false) []
 have hsch:Region.schedule (X.P.follows .mixedOrders) ops (w.tape w.drawn (.order fr.fn id))=σ:=by
  unfold Region.schedule
  rw[hmix]
  simp only[Bool.true_or,if_true]
  unfold Region.linearise
  rw[hσ1];simp
 have hst0:step X.P (lone (au fr.rx fr.fn T fr.todo) (ms++X.cs) w)= .next (lone (au fr.rx fr.fn T (.inRegion ops σ::k)) (ms++X.cs) w.drew):=by
  rw[htd]
  have:=zf (P:=X.P) (rx:=fr.rx) (fn:=fr.fn) (T:=T) (k:=k) (cs:=ms++X.cs) (w:=w) (ops:=ops) (id:=id)
  simp_all
 have hrep: ∀ q,(Array.replicate ops.size false).getD q false=false:=fun q=>by
  simp[Array.getD_eq_getD_getElem?,Array.getElem?_replicate]
  split<;>rfl
 have hI0:yW X.P X.gl X.base ops m fr.tmps hp res (fun q=>(Array.replicate ops.size false).getD q false) θ T w.drew:=by
  have hno: ∀ {q:Nat} {α:Prop},(Array.replicate ops.size false).getD q false=true→α:=fun {q} {α} h=>by rw[hrep q]at h;cases h
  refine⟨(hpre.inv θ (az.refl _ _)).2.1,fun θ' hs=>⟨(hpre.inv θ' hs).1.below ((Below.refl _ _).drew),fun j v hj _=>(hpre.inv θ' hs).2.2 j v hj⟩,fun q r _ h=>hno h,fun q q' r r' k k' x x' _ _ h=>hno h,fun q r k x _ h=>hno h,fun q r _ h=>hno h,
   hpre.gX.below hpre.gb ((Below.refl _ _).drew),hpre.gb,hpre.sz⟩
 obtain⟨n',L',σ',T1,w1,θ',hst,hbel,hsame,hsz,hLm,hcnt,hvs,hI,hhead⟩:=C4 (rx:=fr.rx) (fn:=fr.fn) (k0:=k) (cs:=ms++X.cs) he htab _ _ σ θ T w.drew (by simp) (fun q hq=>by rw[hrep q]at hq;cases hq) (by simp[List.count_replicate]) hσ2 hI0
 have hcl: ∀ q oq p,L'.getD q false=true→ops[q]? =some oq→p∈bC oq→L'.getD p false=true:=fun q oq p hq hoq hp'=>by
  have hqm:=hLm q hq
  obtain⟨_,_,_,_,_,rq,_,_,_,hrq,_⟩:=htab q hqm
  exact hI.closed q rq hqm hq hrq p (ha.IN q rq oq p hqm hrq hoq hp')
 have hA: ∀ q,q<m→q∉F→L'.getD q false=true:=fun q hq hqF=>by
  cases hb:L'.getD q false with
  |true=>rfl
  |false=>
   exfalso
   rcases least (L:=fun q=>L'.getD q false) m with hall|⟨e,e1,e2,e3⟩
   ·simp_all
   ·have her:=xQ he hsz (by omega) e2 e3
    cases n' with
    |zero=>exact(vY (e:=e) (by omega) e2) hcnt
    |succ n'=>
     rcases hvs with⟨h3, -⟩|⟨i,σ2,h3,h4, -⟩
     ·rw[h3]at her;cases her
     ·obtain⟨o,ho, -,h6⟩:=ff.1 h3
      have him:=hhead i σ2 h4
      have h7:L'.getD q false=true:=pM (L:=fun q=>L'.getD q false) he ho him hcl h6 _ q (by omega) (Nat.le_refl _) (by
       rw[show F.contains q=false by rw[←Bool.not_eq_true,List.contains_iff_mem];exact hqF];simp)
      simp_all
 have hnew: ∀ q r k' x,res[q]? =some r→r.news[k']? =some x→L'.getD q false=true:=fun q r k' x h1 h3=>by
  have hq:q<m:=by rw[←hlen];exact(List.getElem?_eq_some_iff.1 h1).1
  by_cases hqF:q∈F
  ·obtain⟨o,r2,qs2,g1,g2, -,hr2, -,hn, -⟩:=(hfl q hqF).ex
   rw[h1]at hr2;cases hr2
   rw[hn,List.getElem?_nil]at h3;cases h3
  ·exact hA q hq hqF
 have hqm: ∀ q r,res[q]? =some r→q<m:=fun q r h=>by rw[←hlen];exact(List.getElem?_eq_some_iff.1 h).1
 have hlt2: ∀ p,p<m→ ∀ t,t<bj hp.length res (p+1)→t<hp.length+g_ res:=fun p hp' t ht=>by
  have h4:=gr (res:=res) (q:=p+1) (q':=res.length) (by omega)
  rw[List.take_length]at h4
  unfold bj at ht;omega
 have hlt: ∀ q r k' x,res[q]? =some r→r.news[k']? =some x→bj hp.length res q+k'<hp.length+g_ res:=fun q r k' x h1 h3=>
  hlt2 q (hqm q r h1) _ (by rw[qP h1];have:=(List.getElem?_eq_some_iff.1 h3).1;omega)
 have hsA: ∀ q r,res[q]? =some r→ ∀ θ2,bX (fun t=>t<hp.length+g_ res) θ' θ2→bX (Aq hp.length res r.jt q) θ' θ2:=fun q r h1 θ2 hs2 t ht=>hs2 t (by
  rcases ht with ht|⟨p,h4, -,h5⟩
  ·omega
  ·refine hlt2 p ?_ t h5
   rcases h4 with rfl|h4
   ·exact hqm p r h1
   ·have:=ha.lt q r p (hqm q r h1) h1 h4
    have:=hqm q r h1
    omega)
 have hbw:Below X.base w w1:=((Below.refl X.base w).drew).trans hbel
 have hAl: ∀ t,t∉wY res→jq m res (fun q=>L'.getD q false) t:=fun t ht i r _ _ hr hc=>ht (uh.2 ⟨i,r,hr,hc⟩)
 have hB0:iE X.P X.gl X.base ops F res (fw ops res (fun q=> !F.contains q) (fun _=>false) m fr.tmps) (gW hp res (fun _=>true)) (fun q=>L'.getD q false) θ' T1 w1:=by
  refine⟨⟨fun θ2 hs2=> ?_,fun t v ht=>(List.getElem?_eq_some_iff.1 ht).1,hpre.gX.below hpre.gb hbw,hpre.gb,Nat.le_trans hpre.sz hbw.size⟩,fun p hpF hLp d hd hdl r hr θ2 hs2=> ?_,fun p d hpF hd v hv=> ?_⟩
  ·rw[dP]at hs2
   have hs3:az hp.length θ' θ2:=fun t ht=>hs2 t (by show t<hp.length+g_ res;omega)
   refine⟨⟨fun t x ht=> ?_,fun t t' x x' ht ht' hne hown hl a a' hb hb'=> ?_⟩, ?_,fun j v hj=> ?_⟩
   ·rcases gi ht with⟨h1,h2⟩|⟨q,r,k',h1, -,h3,hnc,rfl⟩
    ·exact(hI.ae θ2 hs3).1.vw t x h1
    ·rw[hs2 _ (hlt q r k' x h1 h3)]
     exact((hI.op q r (hqm q r h1) (hnew q r k' x h1 h3) h1 θ2 (hsA q r h1 θ2 hs2)).2 k' x h3 (hAl _ hnc))
   ·rcases gi ht with⟨h1,h2⟩|⟨q,r,k',h1, -,h3,hnc,rfl⟩<;>rcases gi ht' with⟨g1,g2⟩|⟨q',r',k2,g1, -,g3,gnc,rfl⟩
    ·exact(hI.ae θ2 hs3).1.ne t t' x x' h1 g1 hne hown hl a a' hb hb'
    ·rw[hs2 _ (hlt q' r' k2 x' g1 g3)]at hb'
     rw[hs3 _ h2]at hb
     exact fun e=>hI.rI q' r' k2 x' (hqm q' r' g1) (hnew q' r' k2 x' g1 g3) g1 g3 (hAl _ gnc) t x h1 (.inr ⟨hown,hl⟩) a' a hb' hb e.symm
    ·rw[hs2 _ (hlt q r k' x h1 h3)]at hb
     rw[hs3 _ g2]at hb'
     exact hI.rI q r k' x (hqm q r h1) (hnew q r k' x h1 h3) h1 h3 (hAl _ hnc) t' x' g1 (.inl ⟨hown,hl⟩) a a' hb hb'
    ·rw[hs2 _ (hlt q r k' x h1 h3)]at hb
     rw[hs2 _ (hlt q' r' k2 x' g1 g3)]at hb'
     refine hI.ne q q' r r' k' k2 x x' (hqm q r h1) (hqm q' r' g1) (hnew q r k' x h1 h3) (hnew q' r' k2 x' g1 g3) h1 g1 h3 g3 ?_ (hAl _ hnc) (hAl _ gnc) hown hl a a' hb hb'
     grind
   ·rw[cU];exact hI.size
   ·rcases gg hj with⟨q,r,h1,h2,h3,h4,h5,h6⟩|⟨h1,h2⟩
    ·have hqF:q∉F:=fun hq=>by
      grind
     have:=(hI.op q r h1 (hA q h1 hqF) h5 θ2 (hsA q r h5 θ2 hs2)).1 j h2 h3
     grind
    ·exact(hI.ae θ2 hs3).2 j v h1 (fun q hq _=>h2 q hq rfl)
  ·rw[dP]at hs2
   rw[cU]at hdl
   exact(hI.op p r (hF p hpF) hLp hr θ2 (hsA p r hr θ2 hs2)).1 d hd hdl
  ·rcases gg hv with⟨q,r,h1,h2,h3,h4,h5,h6⟩|⟨h1,h2⟩
   all_goals grind [Ak]
 obtain⟨hl2,θ3,T2,w2,hsm3,hst2,hb2,hI2⟩:=C5 (rx:=fr.rx) (fn:=fr.fn) (k0:=k) (cs:=ms++X.cs) he hF n' L' σ' 0 _ _ hs1 θ' T1 w1 rs hs2 l2 hp2 (Nat.zero_le _) hsz hcnt hvs hA (fun q hq=>⟨fun h=>by have:=hLm q h;omega,fun h=>by omega⟩) hcl (by simpa using hB) hrs hfl hB0
 have hbw2:Below X.base w w2:=hbw.trans hb2
 rw[dP]at hl2
 refine pU.steps (.head hst0 (hst.trans hst2)) (hk θ3 _ ms w2 ⟨fun θ2 hs2=>⟨(hI2.pre.inv θ2 hs2).1, .cons ⟨T2,rfl, ?_,fun j v hj=> ?_⟩ (hrest θ2 ?_)⟩,hh.ae.trans (fun t ht=>by
   have hlen0:=hh.len
   simp only at hlen0
   rw[hsm3 t (by rw[dP];omega)];exact hsame t (by omega)), ?_,hh.sb.trans hbw2,Nat.le_trans hh.sz hbw2.size,hh.gX.below hh.gb hbw2,hh.gb⟩)
 ·show T2.size=(kx ops res F _).length
  rw[fT]
  exact(hI2.pre.inv θ3 (az.refl _ _)).2.1
 ·rcases om hj with⟨p,hpF,r,h1,h2,h3,rfl⟩|h1
  ·exact hI2.fl p hpF rfl j h1 h2 r h3 θ2 hs2
  ·exact(hI2.pre.inv θ2 hs2).2.2 j v h1
 ·exact fun t ht=>by rw[hs2 t (by show t<hp2.length;omega),hsm3 t (by rw[dP];omega)];exact hsame t ht
 ·show X.n0≤hp2.length
  have:=hh.len
  simp only at this
  omega
end
end Go.Sx
namespace Go.Sx
open Go.RowKit
section
variable {X:Cx} {θ:Th} {l:List (Option SV)} {hp:List (Option Vw)} {T:Array Value} {w:World}
theorem Ok.ql {c c':SC}
  (h: ∀ θ fr bo w,dz X θ c (fr::bo) w→ ∃ fr2 frs2 w2, ∃ new:Nat→Ad,c.hp.length≤c'.hp.length∧Steps X.P (lone fr (bo++X.cs) w) (lone fr2 (frs2++X.cs) w2)∧
   Below X.base w w2∧ ∀ θ',az c.hp.length θ θ'→(∀ k,c.hp.length+k<c'.hp.length→θ' (c.hp.length+k)=new k)→Rel X θ' c' (fr2::frs2) w2) (hk:Ok X c'):Ok X c:=by
 intro θ fr bo w hh
 obtain⟨_,_,_,_,hlen, -⟩:=h θ fr bo w hh
 exact Ok.sk hlen (fun θ fr bo w hh=>by
  obtain⟨a,b,c,d, -,h⟩:=h θ fr bo w hh
  exact⟨a,b,c,d,h⟩) hk θ fr bo w hh
section
variable {fr:iD} {bo:List iD} {ops:Array Oper} {i:Nat} {rest:List Nat} {k:List Item} {o:Oper} {ps qs:List Prop} {hs hs1 hs2:List Hint}
theorem J6 {v:SV} {hp':List (Option Vw)}
  (htd:fr.todo= .inRegion ops (i::rest)::k) (ho:ops[i]? =some o) (hg:fN ops fr.tmps hs o=some (ps,hs1,true)) (hop:p0 X.P X.gl fr.tmps hp hs1 o.op=some (qs,hs2, .val v hp')) (hps:bE ps) (hqs:bE qs)
  (hk:Ok X ⟨{fr with tmps:=dX fr.tmps o.dst v,todo:= .inRegion ops rest::k}::bo,hp'⟩):Ok X ⟨fr::bo,hp⟩:=by
 refine Ok.ql (c':=⟨{fr with tmps:=dX fr.tmps o.dst v,todo:= .inRegion ops rest::k}::bo,hp'⟩) (fun θ m ms w hh=> ?_) hk
 obtain⟨T,rfl,hpre,hrest⟩:=hh.pre
 obtain⟨hh0,hT0⟩:=hpre.inv θ (az.refl _ _)
 obtain⟨r,w',new,hrun,hbel,hlen,hv⟩:=cS (ds:=[]) hpre hop hqs
 have hw:=cK hg hps hT0
 refine⟨au fr.rx fr.fn ((Act.mk T []).put o.dst r).tmps (.inRegion ops rest::k),ms,w',new,hlen, .one ?_,hbel,fun θ' hs hn=> ?_⟩
 ·rw[htd];exact eu ho hw hrun
 ·obtain⟨h1,h2⟩:=hv θ' hs hn
  exact⟨h1, .cons ⟨_,rfl,(hpre.inv θ' hs).2.set h2⟩ (hrest θ' hs)⟩
theorem zF {hp':List (Option Vw)}
  (htd:fr.todo= .inRegion ops (i::rest)::k) (ho:ops[i]? =some o) (hg:fN ops fr.tmps hs o=some (ps,hs1,true)) (hop:p0 X.P X.gl fr.tmps hp hs1 o.op=some (qs,hs2, .skip hp')) (hps:bE ps) (hqs:bE qs)
  (hk:Ok X ⟨{fr with tmps:=dX fr.tmps o.dst (.af []),todo:= .inRegion ops rest::k}::bo,hp'⟩):Ok X ⟨fr::bo,hp⟩:=by
 refine Ok.ql (c':=⟨{fr with tmps:=dX fr.tmps o.dst (.af []),todo:= .inRegion ops rest::k}::bo,hp'⟩) (fun θ m ms w hh=> ?_) hk
 obtain⟨T,rfl,hpre,hrest⟩:=hh.pre
 obtain⟨hh0,hT0⟩:=hpre.inv θ (az.refl _ _)
 obtain⟨w',hrun,hbel,hlen,hv⟩:=cS (ds:=[]) hpre hop hqs
 have hw:=cK hg hps hT0
 refine⟨au fr.rx fr.fn ((Act.mk T []).put o.dst undef).tmps (.inRegion ops rest::k),ms,w',fun _=>⟨none,0,0⟩,Nat.le_of_eq hlen, .one ?_,hbel,fun θ' hs hn=> ?_⟩
 ·rw[htd];exact pt ho hw hrun
 ·exact⟨hv θ' hs, .cons ⟨_,rfl,(hpre.inv θ' hs).2.set (v:= .af []) rfl⟩ (hrest θ' hs)⟩
theorem Co (htd:fr.todo= .inRegion ops (i::rest)::k) (ho:ops[i]? =some o) (hg:fN ops fr.tmps hs o=some (ps,hs1,false)) (hps:bE ps)
  (hk:Ok X ⟨{fr with tmps:=dX fr.tmps o.dst (.af []),todo:= .inRegion ops rest::k}::bo,hp⟩):Ok X ⟨fr::bo,hp⟩:=by
 refine Ok.ql (c':=⟨{fr with tmps:=dX fr.tmps o.dst (.af []),todo:= .inRegion ops rest::k}::bo,hp⟩) (fun θ m ms w hh=> ?_) hk
 obtain⟨T,rfl,hpre,hrest⟩:=hh.pre
 obtain⟨hh0,hT0⟩:=hpre.inv θ (az.refl _ _)
 have hw:=cK hg hps hT0
 refine⟨au fr.rx fr.fn ((Act.mk T []).put o.dst undef).tmps (.inRegion ops rest::k),ms,w,fun _=>⟨none,0,0⟩,Nat.le_refl _, .one ?_,Below.refl _ _,fun θ' hs hn=> ?_⟩
 ·rw[htd];exact vy ho hw
 ·exact⟨(hpre.inv θ' hs).1, .cons ⟨_,rfl,(hpre.inv θ' hs).2.set (v:= .af []) rfl⟩ (hrest θ' hs)⟩
theorem I0 {f:FuncId} {args:List SV} {fn:Func} {b:Code}
  (htd:fr.todo= .inRegion ops (i::rest)::k) (ho:ops[i]? =some o) (hg:fN ops fr.tmps hs o=some (ps,hs1,true)) (hop:p0 X.P X.gl fr.tmps hp hs1 o.op=some (qs,hs2, .enter f args)) (hps:bE ps) (hqs:bE qs)
  (hf:X.P.funcs[f]? =some fn) (hb:fn.body=some b)
  (hk:Ok X ⟨{fn:=f,tmps:=args.map some++List.replicate (fn.ntmps-args.length) (some (.af [])),todo:=[.code b]}::fr::bo,hp⟩):Ok X ⟨fr::bo,hp⟩:=by
 refine Ok.ql (c':=⟨{fn:=f,tmps:=args.map some++List.replicate (fn.ntmps-args.length) (some (.af [])),todo:=[.code b]}::fr::bo,hp⟩) (fun θ m ms w hh=> ?_) hk
 obtain⟨T,rfl,hpre,hrest⟩:=hh.pre
 obtain⟨hh0,hT0⟩:=hpre.inv θ (az.refl _ _)
 obtain⟨as,hrun,has⟩:=cS (ds:=[]) hpre hop hqs
 have hw:=cK hg hps hT0
 refine⟨au {} f (as.toArray++Array.replicate (fn.ntmps-as.toArray.size) undef) [.code b],au fr.rx fr.fn T fr.todo::ms,w,fun _=>⟨none,0,0⟩,Nat.le_refl _, .one ?_,Below.refl _ _,fun θ' hs hn=> ?_⟩
 ·rw[←tW hf hb]
  rw[htd]
  exact fv ho hw hrun
 ·have ha:=has θ' hs
  have hla:as.length=args.length:=by rw[ha,aC];simp
  refine⟨(hpre.inv θ' hs).1, .cons ⟨_,rfl, ?_,fun j v hj=> ?_⟩ (.cons ⟨T,rfl,(hpre.inv θ' hs).2⟩ (hrest θ' hs))⟩
  ·simp[hla]
  ·rw[List.getElem?_append]at hj
   simp only[List.length_map]at hj
   split at hj
   ·rename_i hlt
    rw[List.getElem?_map]at hj
    cases hq:args[j]? with
    |none=>simp[hq]at hj
    |some u=>
     simp[hq]at hj
     subst hj
     rw[Array.getElem?_append_left (by simp[hla,hlt])]
     rw[ha]
     exact cP hq
   ·rename_i hge
    rw[List.getElem?_replicate]at hj
    split at hj
    ·cases hj
     rw[Array.getElem?_append_right (by simp[hla];omega)]
     simp only[List.size_toArray,hla]
     rw[Array.getElem?_replicate,if_pos (by assumption)]
     rfl
    ·cases hj
end
theorem A5 {fr:iD} {bo:List iD} {c':SC} {ps:List Prop} {hs hs':List Hint} (htodo:fr.todo=[]∨ ∃ k,fr.todo= .code .ret::k) (h:FN X.P X.gl hs fr bo hp=some (ps,hs',c')) (hk:Ok X c'):Ok X ⟨fr::bo,hp⟩:=by
 unfold FN at h
 split at h
 ·split at h
  ·rename_i hpl
   simp only[wD,Bool.and_eq_true,Option.isNone_iff_eq_none,List.isEmpty_iff,Bool.not_eq_true']at hpl
   split at h
   ·rename_i v hv
    split at h
    ·rename_i cl' hc
     simp only[Option.some.injEq,Prod.mk.injEq]at h
     obtain⟨-, -,rfl⟩:=h
     exact Il hpl.1.1 hpl.1.2 hpl.2 htodo hv hc hk
    ·cases h
   ·cases h
  ·cases h
 ·cases h
theorem EI {fr:iD} {bo:List iD} {c':SC} {ps:List Prop} {hs hs':List Hint} {o:Operand} {t e:Code} {k:List Item} (htd:fr.todo= .code (.cond o t e)::k) (h:EJ hs fr bo hp (ev fr.tmps o) t e k=some (ps,hs',c')) (hps:bE ps) (hk:Ok X c'):
  Ok X ⟨fr::bo,hp⟩:=by
 unfold EJ at h
 split at h
 ·rename_i b hs'' hev
  simp only[Option.some.injEq,Prod.mk.injEq]at h
  obtain⟨rfl, -,rfl⟩:=h
  refine Ok.go (todo':= .code t::k) (fun θ T cs w hT=> ?_) hk
  rw[htd]
  have:=sX (P:=X.P) (rx:=fr.rx) (fn:=fr.fn) (T:=T) (k:=k) (cs:=cs) (w:=w) (x:=t) (y:=e) (an hT hev)
  rw[hps.1]at this
  exact this
 ·rename_i b hs'' hev
  simp only[Option.some.injEq,Prod.mk.injEq]at h
  obtain⟨rfl, -,rfl⟩:=h
  refine Ok.go (todo':= .code e::k) (fun θ T cs w hT=> ?_) hk
  rw[htd]
  have:=sX (P:=X.P) (rx:=fr.rx) (fn:=fr.fn) (T:=T) (k:=k) (cs:=cs) (w:=w) (x:=t) (y:=e) (an hT hev)
  rw[hps.1]at this
  exact this
 ·cases h
theorem AU {c c':SC} {ps:List Prop} {hs hs':List Hint} (h:qJ X.P X.gl hs c=some (ps,hs',c')) (hps:bE ps) (hk:Ok X c'):Ok X c:=by
 obtain⟨bo,hp⟩:=c
 cases bo with
 |nil=>simp[qJ]at h
 |cons fr bo=>
  have hgo: ∀ {todo':List Item},(∀ θ T cs w,eV θ fr.tmps T→step X.P (lone (au fr.rx fr.fn T fr.todo) cs w)= .next (lone (au fr.rx fr.fn T todo') cs w))→
    some (([]:List Prop),hs,(⟨{fr with todo:=todo'}::bo,hp⟩:SC))=some (ps,hs',c')→Ok X ⟨fr::bo,hp⟩:=by
   intro todo' hst h
   simp only[Option.some.injEq,Prod.mk.injEq]at h
   obtain⟨-, -,rfl⟩:=h
   exact Ok.go hst hk
  simp only[qJ]at h
  split at h
  ·grind [A5]
  ·grind [A5]
  ·rename_i k htd;exact hgo (fun θ T cs w _=>by rw[htd];exact stepR_skip) h
  ·rename_i lb k htd;exact hgo (fun θ T cs w _=>by rw[htd];exact stepR_label) h
  ·rename_i id k htd;exact hgo (fun θ T cs w _=>by rw[htd];exact stepR_inBlock) h
  ·rename_i b k htd;exact hgo (fun θ T cs w _=>by rw[htd];exact uO) h
  ·rename_i a b k htd;exact hgo (fun θ T cs w _=>by rw[htd];exact stepR_seq) h
  ·grind [EI]
  ·rename_i id b k htd;exact hgo (fun θ T cs w _=>by rw[htd];exact stepR_block) h
  ·rename_i b k htd;exact hgo (fun θ T cs w _=>by rw[htd];exact stepR_loop) h
  ·rename_i b k htd;exact hgo (fun θ T cs w _=>by rw[htd];exact stepR_inLoop) h
  ·rename_i b k htd;exact hgo (fun θ T cs w _=>by rw[htd];exact xv) h
  ·rename_i id k htd
   split at h
   ·rename_i k' hk';exact hgo (fun θ T cs w _=>by rw[htd];exact stepR_exit hk') h
   ·cases h
  ·rename_i lb k htd
   split at h
   ·rename_i k' hk';exact hgo (fun θ T cs w _=>by rw[htd];exact stepR_goto hk') h
   ·cases h
  ·rename_i id ops k htd;exact hgo (fun θ T cs w _=>by rw[htd];exact stepR_region) h
  ·rename_i id ops k htd
   split at h
   ·rename_i m F kt hs1
    split at h
    ·rename_i hq
     rw[Bool.and_eq_true,Bool.and_eq_true]at hq
     split at h
     ·rename_i ps' hs2 res hev
      split at h
      ·rename_i qs rs hs3 l3 hp' hst hB
       simp only[Option.some.injEq,Prod.mk.injEq]at h
       obtain⟨rfl, -,rfl⟩:=h
       obtain⟨h1,h2⟩:=aK hps
       obtain⟨h3,h4⟩:=aK h2
       grind [Gp]
      ·cases h
     ·cases h
    ·cases h
   ·cases h
  ·rename_i ops k htd;exact hgo (fun θ T cs w _=>by rw[htd];exact stepR_region_end) h
  ·rename_i ops i rest k htd
   split at h
   ·cases h
   ·rename_i o ho
    split at h
    ·grind [Co]
    ·rename_i ps' hs1 hg
     split at h
     ·rename_i qs hs2 v hp' hop
      simp only[Option.some.injEq,Prod.mk.injEq]at h
      obtain⟨rfl, -,rfl⟩:=h
      exact J6 htd ho hg hop (aK hps).1 (aK hps).2 hk
     ·rename_i qs hs2 hp' hop
      simp only[Option.some.injEq,Prod.mk.injEq]at h
      obtain⟨rfl, -,rfl⟩:=h
      exact zF htd ho hg hop (aK hps).1 (aK hps).2 hk
     ·rename_i qs hs2 f args hop
      split at h
      ·rename_i fn hf
       split at h
       ·rename_i b hb
        simp only[Option.some.injEq,Prod.mk.injEq]at h
        obtain⟨rfl, -,rfl⟩:=h
        exact I0 htd ho hg hop (aK hps).1 (aK hps).2 hf hb hk
       ·cases h
      ·cases h
     ·rename_i qs σ res new hs2 f args hop
      split at h
      ·rename_i hq
       simp only[Bool.and_eq_true]at hq
       simp only[Option.some.injEq,Prod.mk.injEq]at h
       obtain⟨rfl, -,rfl⟩:=h
       obtain⟨h1,h2⟩:=aK hps
       obtain⟨h3,h4⟩:=aK h1
       exact Gv htd ho hg hop h3 h4 h2.1 hq.1 hq.2 hk
      ·cases h
     ·cases h
    ·cases h
  ·cases h
def gR (P:Program) (gl:List (Nat×Vw)):Nat→List Hint→SC→Option (List Prop×SC)
 |0,[],c=>some ([],c)
 |0,_::_,_=>none
 |n+1,hs,c=>match qJ P gl hs c with
  |some (ps,hs',c')=>match gR P gl n hs' c' with
   |some (qs,c'')=>some (ps++qs,c'')
   |none=>none
  |none=>none
theorem zj: ∀ {n:Nat} {hs:List Hint} {c c':SC} {ps:List Prop},gR X.P X.gl n hs c=some (ps,c')→bE ps→Ok X c'→Ok X c
 |0,[],c,c',ps,h,hps,hk=>by
  grind [gR]
 |0,_::_,c,c',ps,h,hps,hk=>by simp[gR]at h
 |n+1,hs,c,c',ps,h,hps,hk=>by
  simp only[gR]at h
  split at h
  ·rename_i qs hs' c1 h1
   split at h
   ·rename_i rs c2 h2
    simp only[Option.some.injEq,Prod.mk.injEq]at h
    obtain⟨rfl,rfl⟩:=h
    obtain⟨h3,h4⟩:=aK hps
    exact AU h1 h3 (zj h2 h4 hk)
   ·cases h
  ·cases h
end
end Go.Sx
namespace Go.Sx
open Go.RowKit
mutual
def sc (n:Nat):SV→Bool
 | .val _=>true
 | .ptr t _=>decide (t<n)
 | .oE t _ _=>decide (t<n)
 | .qU _ _ _ _=>true
 | .sl t _=>decide (t<n)
 | .agg cs=>uP n cs
 | .af cs=>uP n cs
 | .fn _ a b=>uP n a&&uP n b
 | .dZ _ v=>sc n v
 | .mp t=>decide (t<n)
def uP (n:Nat):List SV→Bool
 |[]=>true
 |v::vs=>sc n v&&uP n vs
end
mutual
theorem ED {n:Nat} {θ θ':Th} (hs:az n θ θ'): ∀ v,sc n v=true→den θ' v=den θ v
 | .val v,_=>rfl
 | .ptr t j,h=>by simp only[sc,decide_eq_true_eq]at h;simp only[den,hs t h]
 | .oE t i j,h=>by simp only[sc,decide_eq_true_eq]at h;simp only[den,hs t h]
 | .qU g sz i j,h=>rfl
 | .sl t n',h=>by simp only[sc,decide_eq_true_eq]at h;simp only[den,hs t h]
 | .agg cs,h=>by simp only[sc]at h;simp only[den,fY hs cs h]
 | .af cs,h=>by simp only[sc]at h;simp only[den,fY hs cs h]
 | .fn f a b,h=>by simp only[sc,Bool.and_eq_true]at h;simp only[den,fY hs a h.1,fY hs b h.2]
 | .dZ t v,h=>by simp only[sc]at h;simp only[den,ED hs v h]
 | .mp t,h=>by simp only[sc,decide_eq_true_eq]at h;simp only[den,hs t h]
theorem fY {n:Nat} {θ θ':Th} (hs:az n θ θ'): ∀ l,uP n l=true→ax θ' l=ax θ l
 |[],_=>rfl
 |v::vs,h=>by simp only[uP,Bool.and_eq_true]at h;simp only[ax,ED hs v h.1,fY hs vs h.2]
end
def KH (n:Nat):Vw→Prop
 | .box _ cs=>uP n cs=true
 | .row _ _ _ _ f=> ∀ i,uP n (f i)=true
 | .map _ _ _ _ _=>True
 | .obj _ _ _=>True
def jo (n:Nat):List (Option Vw)→Prop
 |[]=>True
 |none::r=>jo n r
 |some v::r=>KH n v∧jo n r
theorem jo.get {n:Nat}: ∀ {hp:List (Option Vw)},jo n hp→ ∀ {t:Nat} {v:Vw},hp[t]? =some (some v)→KH n v
 |[],_,t,v,h=>by simp at h
 |none::r,hs,0,v,h=>by simp at h
 |none::r,hs,t+1,v,h=>jo.get (hp:=r) hs (by simpa using h)
 |some u::r,hs,0,v,h=>by simp at h;subst h;exact hs.1
 |some u::r,hs,t+1,v,h=>jo.get (hp:=r) hs.2 (by simpa using h)
theorem eC.sc {n:Nat} {θ θ':Th} {w:World} {a:Addr} {j:Nat} {cs:List SV} (hs:az n θ θ') (hc:uP n cs=true) (h:eC θ w a j cs):eC θ' w a j cs:=by
 intro k v hk
 have h1:=fY hs cs hc
 rw[aC,aC]at h1
 have h2:=congrArg (·[k]?) h1
 simp only[List.getElem?_map,hk,Option.map_some,Option.some.injEq]at h2
 rw[h2]
 exact h k v hk
theorem aX.sc {n base:Nat} {θ θ':Th} {w:World} {d:Ad} {v:Vw} (hs:az n θ θ') (hv:KH n v) (h:aX θ base w d v):aX θ' base w d v:=by
 cases v with
 |box o cs=>
  refine⟨fun hn=> ?_,h.2⟩
  obtain⟨a,ha,hl⟩:=h.1 hn
  exact⟨a,ha,hl.sc hs hv⟩
 |row o el n sz f=>
  obtain⟨h1,h2,h3,h4,h5,h6⟩:=h
  exact⟨h1,h2,h3,h4,fun a ha i hi=>(h5 a ha i hi).sc hs (hv i),h6⟩
 |map o k v f st=>exact h
 |obj o l x0=>exact h
theorem bm.sc {base:Nat} {θ θ':Th} {w:World} {hp:List (Option Vw)} (hs:az hp.length θ θ') (hv:jo hp.length hp) (h:bm θ base hp w):bm θ' base hp w:=by
 refine⟨fun t v ht=> ?_,fun t t' v v' ht ht' hne ho hl a a' ha ha'=> ?_⟩
 ·rw[hs t (List.getElem?_eq_some_iff.1 ht).1]
  exact(h.vw t v ht).sc hs (hv.get ht)
 ·rw[hs t (List.getElem?_eq_some_iff.1 ht).1]at ha
  rw[hs t' (List.getElem?_eq_some_iff.1 ht').1]at ha'
  exact h.ne t t' v v' ht ht' hne ho hl a a' ha ha'
theorem eC.AQ {θ θ':Th} {w:World} {σ:Nat→Nat} {a:Addr} {j:Nat} {cs:List SV} (hc:(fun t=>θ (σ t))=θ') (h:eC θ w a j (dU σ cs)):eC θ' w a j cs:=by
 intro k v hk
 have:=h k (Go.Sx.ew σ v) (by rw[iJ,List.getElem?_map,hk];rfl)
 rw[gZ,hc]at this
 exact this
theorem aX.AQ {θ θ':Th} {w:World} {base:Nat} {σ:Nat→Nat} {d:Ad} {v:Vw} (hc:(fun t=>θ (σ t))=θ') (h:aX θ base w d (v.ew σ)):aX θ' base w d v:=by
 cases v with
 |box o cs=>
  refine⟨fun hn=> ?_,fun ho=> ?_⟩
  ·obtain⟨a,ha,hl⟩:=h.1 (by
    intro e
    cases cs with
    |nil=>exact hn rfl
    |cons c r=>simp[dU]at e)
   exact⟨a,ha,hl.AQ hc⟩
  ·obtain⟨b,h1,h2,h3⟩:=h.2 ho
   rw[gU]at h3
   exact⟨b,h1,h2,h3⟩
 |row o el n sz f=>
  obtain⟨h1,h2,h3,h4,h5,h6⟩:=h
  refine⟨h1,h2,h3,fun i hi=> ?_,fun a ha i hi=>(h5 a ha i hi).AQ hc,h6⟩
  obtain⟨q1,q2⟩:=h4 i hi
  rw[gU]at q1
  refine⟨q1, ?_⟩
  rw[List.all_eq_true]at q2⊢
  intro x hx
  have:=q2 (Go.Sx.ew σ x) (by show _∈dU σ (f i);rw[iJ];exact List.mem_map_of_mem hx)
  rwa [Bl]at this
 |map o k v f st=>exact h
 |obj o l x0=>exact h
structure av (X:Cx) (P:Program) (gl:List (Nat×Vw)) (f:FuncId) (hp0:List (Option Vw)) (res:SV) (new:List (Option Vw)):Prop where
 P:X.P=P
 gl:X.gl=gl
 f0:X.f0=f
 ce:X.ce=X.cs
 n0:X.n0=hp0.length
 base:X.base=X.w0.heap.size
 init: ∀ θ',az hp0.length X.θ0 θ'→bm θ' X.base hp0 X.w0
 ro:hp0.all (fun x=>match x with|some v=> !v.own|none=>true)=true
 R: ∀ r w',Below X.base X.w0 w'→(∃ nw:Nat→Ad, ∀ θ',az hp0.length X.θ0 θ'→(∀ k,k<new.length→θ' (hp0.length+k)=nw k)→r=den θ' res∧bm θ' X.base (hp0++new) w')→X.R (.returned r) w'
def entry (P:Program) (f:FuncId) (args:List SV) (hp:List (Option Vw)):SC:=match P.funcs[f]? with
 |some fn=>match fn.body with
  |some b=>⟨[{fn:=f,tmps:=args.map some++List.replicate (fn.ntmps-args.length) (some (.af [])),todo:=[.code b]}],hp⟩
  |none=>⟨[],hp⟩
 |none=>⟨[],hp⟩
theorem ab.intro {P:Program} {gl:List (Nat×Vw)} {f:FuncId} {args:List SV} {hp0:List (Option Vw)} {res:SV} {new:List (Option Vw)} (hne:(entry P f args hp0).bo≠[])
  (hsc:uP hp0.length args=true) (hh:jo hp0.length hp0) (hro:hp0.all (fun x=>match x with|some v=> !v.own|none=>true)=true) (h: ∀ X,av X P gl f hp0 res new→Ok X (entry P f args hp0)):ab P gl f args hp0 res new:=by
 intro θ w hhp hg cs
 unfold entry at hne h
 cases hf:P.funcs[f]? with
 |none=>simp[hf]at hne
 |some fn=>
  cases hb:fn.body with
  |none=>simp[hf,hb]at hne
  |some b=>
   simp only[hf,hb]at h
   let X:Cx:=⟨P,gl,w.heap.size,w,θ,hp0.length,cs,cs,f,fun e w'=>Below w.heap.size w w'∧ ∃ r,e= .returned r∧ ∃ nw:Nat→Ad, ∀ θ',az hp0.length θ θ'→(∀ k,k<new.length→θ' (hp0.length+k)=nw k)→r=den θ' res∧bm θ' w.heap.size (hp0++new) w'⟩
   have hX:av X P gl f hp0 res new:=⟨rfl,rfl,rfl,rfl,rfl,rfl,fun θ' hs=>hhp.sc hs hh,hro,fun r w' hb hr=>⟨hb,r,rfl,hr⟩⟩
   have hd:=h X hX θ (Frame.enter P f (ax θ args).toArray .normal) [] w ⟨fun θ' hs=>⟨hhp.sc hs hh, ?_⟩,az.refl _ _,Nat.le_refl _,Below.refl _ _,Nat.le_refl _,hg,fun g v hm=>(hg g v hm).1⟩
   ·obtain⟨e,w',fr',hR,hc,h1,h2⟩:=hd
    exact⟨e,w',fr',hR,hc,h1,h2⟩
   ·rw[tW hf hb]
    refine .cons ⟨_,rfl, ?_,fun j v hj=> ?_⟩ .nil
    ·simp[aC]
    ·have hla:(ax θ args).length=args.length:=by simp[aC]
     have he:ax θ args=ax θ' args:=(fY hs args hsc).symm
     rw[List.getElem?_append]at hj
     simp only[List.length_map]at hj
     split at hj
     ·rename_i hlt
      rw[List.getElem?_map]at hj
      cases hq:args[j]? with
      |none=>simp[hq]at hj
      |some u=>
       simp[hq]at hj
       subst hj
       rw[Array.getElem?_append_left (by simp[hla,hlt]),he]
       exact cP hq
     ·rename_i hge
      rw[List.getElem?_replicate]at hj
      split at hj
      ·cases hj
       rw[Array.getElem?_append_right (by simp[hla];omega)]
       simp only[List.size_toArray,hla]
       rw[Array.getElem?_replicate,if_pos (by assumption)]
       rfl
      ·cases hj
def ik (n0:Nat) (τ:List Nat) (N t:Nat):Nat:=if t<n0 then t else if t-n0<τ.length then τ.getD (t-n0) 0 else N+t
def yG (P:Program) (gl:List (Nat×Vw)) (f:FuncId) (c:SC):Option SV:=match c.bo with
 |[fr]=>if fr.fn==f&&wD fr then match fr.todo with
  |[]| .code .ret::_=>Ce P gl c.hp fr
  |_=>none else none
 |_=>none
def mM:List Nat→Bool
 |[]=>true
 |a::r=> !r.contains a&&mM r
theorem vP: ∀ {l:List Nat},mM l=true→ ∀ (i j a:Nat),l[i]? =some a→l[j]? =some a→i=j
 |[],_,i,j,a,h,_=>by simp at h
 |b::r,h,0,0,a,_,_=>rfl
 |b::r,h,0,j+1,a,h1,h2=>by
  grind [mM]
 |b::r,h,i+1,0,a,h1,h2=>by
  grind [mM]
 |b::r,h,i+1,j+1,a,h1,h2=>by
  simp only[mM,Bool.and_eq_true]at h
  rw[vP h.2 i j a (by simpa using h1) (by simpa using h2)]
theorem tX {X:Cx} {P:Program} {gl:List (Nat×Vw)} {f:FuncId} {hp0 new:List (Option Vw)} {res:SV} {τ:List Nat} {c:SC} (hX:av X P gl f hp0 res new)
  (he:yG P gl f c=some (ew (ik hp0.length τ c.hp.length) res)) (hn:τ.map (bL c.hp)=new.map fun x=>x.map (Vw.ew (ik hp0.length τ c.hp.length))) (hτ:τ.all (fun t=>decide (t<c.hp.length))=true) (hnd:mM τ=true):
  ∀ θ m ms w,dz X θ c (m::ms) w→ms=[]∧ ∃ fn T todo v,m=au {} fn T todo∧(todo=[]∨ ∃ k,todo= .code .ret::k)∧fn=f∧X.R (.returned v) w∧({m with mode:= .returning}:Frame).leaving P w (.returned v):=by
 obtain⟨bo,hp⟩:=c
 unfold yG at he
 simp only at he hn hτ
 match bo,he with
 |[fr],he=>
  simp only at he
  split at he
  ·rename_i hfn
   rw[Bool.and_eq_true,beq_iff_eq]at hfn
   obtain⟨hfn,hpl⟩:=hfn
   simp only[wD,Bool.and_eq_true,Option.isNone_iff_eq_none,List.isEmpty_iff,Bool.not_eq_true']at hpl
   have htodo:(fr.todo=[]∨ ∃ k,fr.todo= .code .ret::k)∧Ce P gl hp fr=some (ew (ik hp0.length τ hp.length) res):=by
    grind
   obtain⟨htodo,hret⟩:=htodo
   intro θ m ms w hh
   obtain⟨T,rfl,hpre,hrest⟩:=hh.pre
   obtain⟨hh0,hT0⟩:=hpre.inv θ (az.refl _ _)
   have hms:ms=[]:=by
    cases hrest θ (az.refl _ _);rfl
   subst hms
   rw[hX.P,hX.gl]at hpre
   have hleave:=jL (P:=P) hpl.1.2 hpl.2 hh0 hpre.gX hT0 hret
   have hrx:fr.rx={}:=by obtain⟨fn',tm',td',rd',ds',df'⟩:=fr;obtain⟨⟨q1,q2⟩,q3⟩:=hpl;simp only at q1 q2 q3;subst q1 q2 q3;rfl
   refine⟨rfl,fr.fn,T,fr.todo,den θ (ew (ik hp0.length τ hp.length) res),by rw[hrx],htodo,hfn, ?_,hleave⟩
   ·refine hX.R _ _ hh.sb ⟨fun k=>θ (τ.getD k 0),fun θ' hs hnew=> ?_⟩
    have hl:=hh.len
    simp only at hl
    rw[hX.n0]at hl
    have hold:=hh.ae
    rw[hX.n0]at hold
    have hlen:τ.length=new.length:=by have:=congrArg List.length hn;simpa using this
    have hτ': ∀ k,k<τ.length→τ.getD k 0<hp.length:=fun k hk=>by
     simp_all
    let θ2:Th:=fun t=>if t<hp.length then θ t else θ' (t-hp.length)
    have hs2:az hp.length θ θ2:=fun t ht=>by simp[θ2,ht]
    have hcomp:(fun t=>θ2 (ik hp0.length τ hp.length t))=θ':=by
     funext t
     unfold ik
     split
     ·rename_i hlt
      simp only[θ2,show t<hp.length by omega,if_true]
      rw[hold t hlt,hs t hlt]
     ·split
      all_goals grind
    obtain⟨hh2,hT2⟩:=hpre.inv θ2 hs2
    have hr:den θ (ew (ik hp0.length τ hp.length) res)=den θ2 (ew (ik hp0.length τ hp.length) res):=by
     have hleave':=jL (P:=P) hpl.1.2 hpl.2 hh2 hpre.gX hT2 hret
     obtain⟨-, -, -,fn,hf,hr⟩:=hleave
     obtain⟨-, -, -,fn',hf',hr'⟩:=hleave'
     simp_all
    refine⟨by rw[hr,gZ,hcomp], ?_⟩
    have hbw:Below X.w0.heap.size X.w0 w:=by rw[←hX.base];exact hh.sb
    have hinit:=(hX.init θ' hs).below hbw
    have key: ∀ t x,(hp0++new)[t]? =some (some x)→(hp0[t]? =some (some x)∧t<hp0.length∧x.own=false)∨
      ∃ k,t=hp0.length+k∧k<τ.length∧hp[τ.getD k 0]? =some (some (x.ew (ik hp0.length τ hp.length))):=by
     intro t x ht
     rw[List.getElem?_append]at ht
     split at ht
     ·rename_i hlt
      refine .inl ⟨ht,hlt, ?_⟩
      have:=List.all_eq_true.1 hX.ro (some x) (List.mem_of_getElem? ht)
      simpa using this
     ·rename_i hge
      have hk:t-hp0.length<τ.length:=by rw[hlen];exact(List.getElem?_eq_some_iff.1 ht).1
      refine .inr ⟨t-hp0.length,by omega,hk, ?_⟩
      have h1:=congrArg (·[t-hp0.length]?) hn
      simp only[List.getElem?_map,ht,Option.map_some]at h1
      rw[List.getElem?_eq_getElem hk]at h1
      simp only[Option.map_some,Option.some.injEq]at h1
      rw[List.getD_eq_getElem?_getD,List.getElem?_eq_getElem hk,Option.getD_some]
      exact aN h1
    have hfin: ∀ k,k<τ.length→θ2 (τ.getD k 0)=θ' (hp0.length+k):=fun k hk=>by
     grind
    refine⟨fun t x ht=> ?_,fun t t' x x' ht ht' hne ho hl a a' ha ha'=> ?_⟩
    ·rcases key t x ht with⟨h1, -, -⟩|⟨k,rfl,hk,h1⟩
     ·exact hinit.vw t x h1
     ·have h2:=hh2.vw _ _ h1
      grind [aX.AQ]
    ·rcases key t x ht with⟨h1, -,h2⟩|⟨k,rfl,hk,h1⟩
     ·rw[h2]at ho;cases ho
     ·rcases key t' x' ht' with⟨h3,h4, -⟩|⟨k',rfl,hk',h3⟩
      ·have h5:=hh2.vw _ _ h1
       rw[hfin k hk]at h5
       have h6:X.base≤a.block:=by
        cases x with
        |box o cs=>obtain⟨b,e1,e2, -⟩:=h5.2 ho;rw[ha]at e1;cases e1;exact e2
        |row o el n sz f=>
         rcases h5.2.2.2.2.2 ho with e|⟨b,c,e1,e2, -⟩
         all_goals grind
        |map o k v f st=>obtain⟨b,e1,e2, -⟩:=h5;rw[ha]at e1;cases e1;exact e2 ho
        |obj o l x0=>obtain⟨b,e1,e2, -⟩:=h5;rw[ha]at e1;cases e1;exact e2 ho
       have h7:=((hX.init θ' hs).vw t' x' h3).lt ha' hl
       rw[←hX.base]at h7
       omega
      ·refine hh2.ne _ _ _ _ h1 h3 (fun e=>hne ?_) (by rw[wy];exact ho) (hl.imp (fun h=>by rw[wy];exact h) (xD _ _).2) a a' (by rw[hfin k hk];exact ha) (by rw[hfin k' hk'];exact ha')
       grind [vP]
  ·cases he
theorem Ex {X:Cx} {P:Program} {gl:List (Nat×Vw)} {f:FuncId} {hp0 new:List (Option Vw)} {res:SV} {τ:List Nat} {c:SC} (hX:av X P gl f hp0 res new)
  (he:yG P gl f c=some (ew (ik hp0.length τ c.hp.length) res)) (hn:τ.map (bL c.hp)=new.map fun x=>x.map (Vw.ew (ik hp0.length τ c.hp.length))) (hτ:τ.all (fun t=>decide (t<c.hp.length))=true) (hnd:mM τ=true):
  Ok X c:=by
 intro θ m ms w hh
 obtain⟨rfl,fn,T,todo,v,rfl,htodo,hfn,hR,hl⟩:=tX hX he hn hτ hnd θ m ms w hh
 refine⟨.returned v,w,_,hR, ?_, ?_,by rw[hX.P];exact hl⟩
 ·rw[hX.ce];exact .one (by rw[hX.P];exact er rfl htodo _)
 ·rw[←hX.f0]at hfn;exact hfn
end Go.Sx
namespace Go.Sx
open Go.RowKit
def vx (P:Program) (gl:List (Nat×Vw)) (f:FuncId) (τ:List Nat) (n:Nat) (hs:List Hint) (c:SC):Option (List Prop×Nat×SV×List (Option Vw)):=match gR P gl n hs c with
 |some (ps,c')=>match yG P gl f c' with
  |some v=>some (ps,c'.hp.length,v,τ.map (bL c'.hp))
  |none=>none
 |none=>none
def IZ (hp:List (Option Vw)):Bool:=hp.all fun x=>match x with
 |some v=> !v.own
 |none=>true
def xa (τ:List Nat) (N:Nat):Bool:=τ.all (fun t=>decide (t<N))&&mM τ
theorem Ok.fin {X:Cx} {P:Program} {gl:List (Nat×Vw)} {f:FuncId} {hp0 new:List (Option Vw)} {res:SV} {ps:List Prop} {c:SC} (n:Nat) (hs:List Hint) (τ:List Nat) (N:Nat) (hX:av X P gl f hp0 res new)
  (h:vx P gl f τ n hs c=some (ps,N,ew (ik hp0.length τ N) res,new.map fun x=>x.map (Vw.ew (ik hp0.length τ N)))) (hc:xa τ N=true) (hps:bE ps):Ok X c:=by
 unfold vx at h
 split at h
 ·rename_i ps' c' hr
  split at h
  ·rename_i v hv
   simp only[Option.some.injEq,Prod.mk.injEq]at h
   obtain⟨rfl,rfl,rfl,h4⟩:=h
   simp only[xa,Bool.and_eq_true]at hc
   have hk:Ok X c':=Ex hX hv h4 hc.1 hc.2
   rw[←hX.P,←hX.gl]at hr
   exact zj hr hps hk
  ·cases h
 ·cases h
theorem ab.path {P:Program} {gl:List (Nat×Vw)} {f:FuncId} {args:List SV} {hp0 new:List (Option Vw)} {res:SV} {ps:List Prop} (n:Nat) (hs:List Hint) (τ:List Nat) (N:Nat)
  (h:vx P gl f τ n hs (entry P f args hp0)=some (ps,N,ew (ik hp0.length τ N) res,new.map fun x=>x.map (Vw.ew (ik hp0.length τ N)))) (hc:(xa τ N&&uP hp0.length args&&IZ hp0)=true)
  (hh:jo hp0.length hp0) (hps:bE ps):ab P gl f args hp0 res new:=by
 simp only[Bool.and_eq_true]at hc
 obtain⟨⟨h1,h2⟩,h3⟩:=hc
 refine ab.intro ?_ h2 hh h3 (fun X hX=>Ok.fin n hs τ N hX h h1 hps)
 intro he
 cases n with
 |zero=>
  cases hs with
  |nil=>
   grind [yG,vx,gR]
  |cons a b=>simp[vx,gR]at h
 |succ n=>
  unfold vx gR at h
  have:qJ P gl hs (entry P f args hp0)=none:=by
   generalize entry P f args hp0=c at he
   obtain⟨bo,hp⟩:=c
   simp only at he
   subst he
   rfl
  rw[this]at h
  simp at h
def gE:List Bool→List (Option SV)→List (Option SV)
 |true::m,x::l=>x::gE m l
 |false::m,_::l=>none::gE m l
 |_,_=>[]
def qo:List (List Bool)→List iD→List iD
 |m::ms,fr::bo=>{fr with tmps:=gE m fr.tmps}::qo ms bo
 |_,_=>[]
def B9 (n:Nat):List (Option SV)→Bool
 |[]=>true
 |none::r=>B9 n r
 |some v::r=>sc n v&&B9 n r
def tA:List (List Bool)→List iD→Bool
 |[],[]=>true
 |m::ms,fr::bo=>m.length==fr.tmps.length&&B9 0 []&&tA ms bo
 |_,_=>false
section
variable {X:Cx} {θ:Th} {hp:List (Option Vw)} {T:Array Value} {w:World}
theorem qR: ∀ {m:List Bool} {l:List (Option SV)} {j:Nat} {v:SV},(gE m l)[j]? =some (some v)→l[j]? =some (some v)
 |[],l,j,v,h=>by simp[gE]at h
 |true::m,[],j,v,h=>by simp[gE]at h
 |false::m,[],j,v,h=>by simp[gE]at h
 |true::m,x::l,0,v,h=>by simpa[gE]using h
 |true::m,x::l,j+1,v,h=>by simp only[gE,List.getElem?_cons_succ]at h⊢;exact qR h
 |false::m,x::l,0,v,h=>by simp[gE]at h
 |false::m,x::l,j+1,v,h=>by simp only[gE,List.getElem?_cons_succ]at h⊢;exact qR h
theorem jJ: ∀ {m:List Bool} {l:List (Option SV)},m.length=l.length→(gE m l).length=l.length
 |[],[],_=>rfl
 |[],_::_,h=>by simp at h
 |true::m,[],h=>by simp at h
 |false::m,[],h=>by simp at h
 |true::m,x::l,h=>by simp only[gE,List.length_cons];rw[jJ (by simpa using h)]
 |false::m,x::l,h=>by simp only[gE,List.length_cons];rw[jJ (by simpa using h)]
theorem wq {n:Nat}: ∀ {l:List (Option SV)} {j:Nat} {v:SV},B9 n l=true→l[j]? =some (some v)→sc n v=true
 |[],j,v,_,h=>by simp at h
 |none::r,0,v,hs,h=>by simp at h
 |none::r,j+1,v,hs,h=>wq (l:=r) hs (by simpa using h)
 |some u::r,0,v,hs,h=>by simp at h;subst h;simp only[B9,Bool.and_eq_true]at hs;exact hs.1
 |some u::r,j+1,v,hs,h=>by simp only[B9,Bool.and_eq_true]at hs;exact wq (l:=r) hs.2 (by simpa using h)
end
abbrev I (x:Int):SV:= .val (.int .i64 x)
abbrev N (k:IntKind) (x:Int):SV:= .val (.int k x)
abbrev B (b:Bool):SV:= .val (.bool b)
end Go.Sx
namespace Go.Sx
open Go.RowKit
theorem ca {p:Prop} {ps:List Prop} (h:p) (hs:bE ps):bE (p::ps):=⟨h,hs⟩
theorem na:bE []:=trivial
theorem dt {p:Prop} [Decidable p] (h:p):decide p=true:=decide_eq_true h
theorem df {p:Prop} [Decidable p] (h: ¬p):decide p=false:=decide_eq_false h
theorem rt:true=true:=rfl
theorem rf:false=false:=rfl
theorem re {α:Type} (a:α):a=a:=rfl
abbrev tb:Hint:= .b true
abbrev fb:Hint:= .b false
def bJ (n:Nat) (l:List (Nat×SV)):List (Option SV):=(List.range n).map fun i=>l.lookup i
def cN (n:Nat) (l:List Nat):List Bool:=(List.range n).map fun i=>l.contains i
theorem nt {b:Bool} (h:b=false):(!b)=true:=by rw[h];rfl
theorem nf {b:Bool} (h:b=true):(!b)=false:=by rw[h];rfl
theorem Bo {b:Bool} (h:b=false):(!b)=true:=by rw[h];rfl
theorem tu {b:Bool} (h:b=true):(!b)=false:=by rw[h];rfl
instance (k:IntKind) (x:Int):Decidable (aj k x):=by cases k<;>unfold aj<;>exact inferInstance
def sub:Code→List Nat→Code
 |c,[]=>c
 | .seq a _,0::p=>sub a p
 | .seq _ b,_::p=>sub b p
 | .cond _ a _,0::p=>sub a p
 | .cond _ _ b,_::p=>sub b p
 | .block _ b,_::p=>sub b p
 | .loop b,_::p=>sub b p
 | .scope b,_::p=>sub b p
 | .rangeFunc _ _ a _,0::p=>sub a p
 | .rangeFunc _ _ _ b,_::p=>sub b p
 |c,_=>c
def aa (f:Func) (p:List Nat):Code:=match f.body with
 |some b=>sub b p
 |none=> .skip
def aU (f:Func) (p:List Nat):Array Oper:=match aa f p with
 | .region _ ops _=>ops
 |_=> #[]
inductive Mv where
 |ae (t:Nat)
 |nil (sz:Nat)
mutual
def pull (τ:List Mv):SV→SV
 | .val v=> .val v
 | .ptr t j=>match τ[t]? with
   |some (.ae s)=> .ptr s j
   |_=> .val (.pointer none)
 | .oE t i j=>match τ[t]? with
   |some (.ae s)=> .oE s i j
   |_=> .val (.pointer none)
 | .qU g sz i j=> .qU g sz i j
 | .sl t n=>match τ[t]? with
   |some (.ae s)=> .sl s n
   |_=> .val (.slice none n 0)
 | .agg cs=> .agg (dw τ cs)
 | .af vs=> .af (dw τ vs)
 | .fn f a b=> .fn f (dw τ a) (dw τ b)
 | .dZ t v=> .dZ t (pull τ v)
 | .mp t=>match τ[t]? with
   |some (.ae s)=> .mp s
   |_=> .val (.map none)
def dw (τ:List Mv):List SV→List SV
 |[]=>[]
 |v::vs=>pull τ v::dw τ vs
end
def o_ (τ:List Mv):List (Option SV)→List (Option SV)
 |[]=>[]
 |some v::r=>some (pull τ v)::o_ τ r
 |none::r=>none::o_ τ r
def rF (τ:List Mv):List iD→List iD
 |[]=>[]
 |f::r=>{f with tmps:=o_ τ f.tmps}::rF τ r
def tk (τ:List Mv):Vw→Vw
 | .box o cs=> .box o (dw τ cs)
 | .row o el n sz f=> .row o el n sz (fun i=>dw τ (f i))
 | .map o k v f st=> .map o k v f st
 | .obj o l x=> .obj o l x
def fQ (τ:List Mv):List Mv→List (Option Vw)→List (Option Vw)
 | .ae _::m,some v::r=>some (tk τ v)::fQ τ m r
 | .ae _::m,none::r=>none::fQ τ m r
 | .nil _::m,_::r=>fQ τ m r
 |_,_=>[]
def gB (hp:List (Option Vw)):List Mv→List (Option Vw)→List (Option Vw)
 | .ae t::m,some v::r=>(if v.own then bL hp t else(bL hp t).map Vw.ro)::gB hp m r
 | .ae _::m,none::r=>none::gB hp m r
 | .nil _::m,_::r=>gB hp m r
 |_,_=>[]
def eK:List Mv→List (Option Vw)→Bool
 | .ae _::m,_::r=>eK m r
 | .nil sz::m,some (.row _ _ 0 sz' _)::r=>sz==sz'&&eK m r
 |[],[]=>true
 |_,_=>false
def mJ:List Mv→List (Option Vw)→List Nat
 | .ae t::m,some _::r=>t::mJ m r
 |_::m,_::r=>mJ m r
 |_,_=>[]
def jD:List Mv→List (Option Vw)→List Nat
 | .ae t::m,some v::r=>if v.own then t::jD m r else jD m r
 |_::m,_::r=>jD m r
 |_,_=>[]
def apart:List Mv→List (Option Vw)→Bool
 | .ae t::m,some v::r=>(if v.own then !(mJ m r).contains t else !(jD m r).contains t)&&apart m r
 |_::m,_::r=>apart m r
 |_,_=>true
def stay (n:Nat) (τ:List Mv):Bool:=(List.range n).all fun t=>match τ[t]? with
 |some (.ae s)=>s==t
 |_=>false
def jG (τ:List Mv) (θ:Th) (t:Nat):Ad:=match τ[t]? with
 |some (.ae s)=>θ s
 |some (.nil sz)=>⟨none,0,sz⟩
 |none=>⟨none,0,0⟩
mutual
theorem ub {τ:List Mv} {θ θ':Th} (h: ∀ t,t<τ.length→θ' t=jG τ θ t): ∀ v,sc τ.length v=true→den θ (pull τ v)=den θ' v
 | .val v,_=>rfl
 | .ptr t j,hs=>by
   simp only[sc,decide_eq_true_eq]at hs
   simp only[pull,den,h t hs,jG]
   rw[List.getElem?_eq_getElem hs]
   cases τ[t]<;>rfl
 | .oE t i j,hs=>by
   simp only[sc,decide_eq_true_eq]at hs
   simp only[pull,den,h t hs,jG]
   rw[List.getElem?_eq_getElem hs]
   cases τ[t]<;>rfl
 | .sl t n,hs=>by
   simp only[sc,decide_eq_true_eq]at hs
   simp only[pull,den,h t hs,jG]
   rw[List.getElem?_eq_getElem hs]
   cases τ[t]<;>rfl
 | .qU g sz i j,_=>rfl
 | .agg cs,hs=>by simp only[sc]at hs;simp only[pull,den,gj h cs hs]
 | .af cs,hs=>by simp only[sc]at hs;simp only[pull,den,gj h cs hs]
 | .fn f a b,hs=>by simp only[sc,Bool.and_eq_true]at hs;simp only[pull,den,gj h a hs.1,gj h b hs.2]
 | .dZ t v,hs=>by simp only[sc]at hs;simp only[pull,den,ub h v hs]
 | .mp t,hs=>by
   simp only[sc,decide_eq_true_eq]at hs
   simp only[pull,den,h t hs,jG]
   rw[List.getElem?_eq_getElem hs]
   cases τ[t]<;>rfl
theorem gj {τ:List Mv} {θ θ':Th} (h: ∀ t,t<τ.length→θ' t=jG τ θ t): ∀ l,uP τ.length l=true→ax θ (dw τ l)=ax θ' l
 |[],_=>rfl
 |v::vs,hs=>by simp only[uP,Bool.and_eq_true]at hs;simp only[dw,ax,ub h v hs.1,gj h vs hs.2]
end
theorem jC (τ:List Mv): ∀ l,(dw τ l).length=l.length
 |[]=>rfl
 |v::vs=>by simp only[dw,List.length_cons,jC τ vs]
theorem oy (τ:List Mv): ∀ (l:List SV) (k:Nat),(dw τ l)[k]? =(l[k]?).map (pull τ)
 |[],k=>by simp[dw]
 |v::vs,0=>by simp[dw]
 |v::vs,k+1=>by simp only[dw,List.getElem?_cons_succ];exact oy τ vs k
theorem qN (τ:List Mv): ∀ (l:List (Option SV)) (j:Nat) (v:SV),l[j]? =some (some v)→(o_ τ l)[j]? =some (some (pull τ v))
 |[],j,v,h=>by simp at h
 |some u::r,0,v,h=>by simp at h;subst h;simp[o_]
 |none::r,0,v,h=>by simp at h
 |some u::r,j+1,v,h=>by simp only[o_,List.getElem?_cons_succ];exact qN τ r j v (by simpa using h)
 |none::r,j+1,v,h=>by simp only[o_,List.getElem?_cons_succ];exact qN τ r j v (by simpa using h)
theorem jB (τ:List Mv): ∀ l,(o_ τ l).length=l.length
 |[]=>rfl
 |some v::vs=>by simp only[o_,List.length_cons,jB τ vs]
 |none::vs=>by simp only[o_,List.length_cons,jB τ vs]
theorem eC.pull {τ:List Mv} {θ θ':Th} {w:World} {a:Addr} {j:Nat} {cs:List SV} (ht: ∀ t,t<τ.length→θ' t=jG τ θ t) (hc:uP τ.length cs=true) (h:eC θ w a j (dw τ cs)):eC θ' w a j cs:=by
 intro k v hk
 have h1:=h k (Go.Sx.pull τ v) (by rw[oy,hk];rfl)
 rw[h1]
 have h2:=gj ht cs hc
 rw[aC,aC]at h2
 have h3:=congrArg (·[k]?) h2
 grind [oy]
theorem DQ {τ:List Mv} {v:SV} (h:one (pull τ v)=true):one v=true:=by
 cases v<;>simp_all [pull,one]
theorem aX.pull {τ:List Mv} {θ θ':Th} {w:World} {base:Nat} {d:Ad} {v:Vw} (ht: ∀ t,t<τ.length→θ' t=jG τ θ t) (hs:KH τ.length v) (h:aX θ base w d (tk τ v)):aX θ' base w d v:=by
 cases v with
 |box o cs=>
  refine⟨fun hn=> ?_,fun ho=> ?_⟩
  ·obtain⟨a,ha,hl⟩:=h.1 (by
    intro e
    cases cs with
    |nil=>exact hn rfl
    |cons c r=>simp[dw]at e)
   exact⟨a,ha,hl.pull ht hs⟩
  ·obtain⟨b,h1,h2,h3⟩:=h.2 ho
   grind [jC]
 |row o el n sz f=>
  obtain⟨h1,h2,h3,h4,h5,h6⟩:=h
  refine⟨h1,h2,h3,fun i hi=> ?_,fun a ha i hi=>(h5 a ha i hi).pull ht (hs i),h6⟩
  obtain⟨q1,q2⟩:=h4 i hi
  rw[jC]at q1
  refine⟨q1, ?_⟩
  rw[List.all_eq_true]at q2⊢
  intro x hx
  obtain⟨k,hk⟩:=List.getElem?_of_mem hx
  exact DQ (q2 (Go.Sx.pull τ x) (List.mem_of_getElem? (by rw[oy,hk];rfl)))
 |map o k v f st=>exact h
 |obj o l x0=>exact h
theorem vN (τ:List Mv) (v:Vw):(tk τ v).own=v.own:=by cases v<;>rfl
theorem zy (τ:List Mv) (v:Vw):v.live→(tk τ v).live:=by
 cases v with
 |box o cs=>intro h;simp only[Vw.live,tk]at h⊢;intro e;exact h (by cases cs with|nil=>rfl|cons c r=>simp[dw]at e)
 |row o el n sz f=>exact id
 |map o k v f st=>exact id
 |obj o l x0=>exact id
theorem gA {τ:List Mv} {hp:List (Option Vw)}: ∀ {m:List Mv} {l:List (Option Vw)},fQ τ m l=gB hp m l→eK m l=true→ ∀ (t:Nat) (v:Vw),l[t]? =some (some v)→
  (∃ s u,m[t]? =some (.ae s)∧bL hp s=some u∧(if v.own then u else u.ro)=tk τ v)∨ ∃ sz o el f,m[t]? =some (.nil sz)∧v= .row o el 0 sz f
 |[],[],_,_,t,v,h=>by simp at h
 |[],_::_,_,h,t,v,_=>by simp[eK]at h
 | .ae s::m,[],_,h,t,v,hv=>by simp at hv
 | .nil s::m,[],_,h,t,v,hv=>by simp at hv
 | .ae s::m,some u::r,he,hn,0,v,h=>by
   simp at h;subst h
   simp only[fQ,gB,List.cons.injEq]at he
   have h1:=he.1
   split at h1
   ·simp_all
   ·rename_i ho
    cases hg:bL hp s with
    |none=>simp[hg]at h1
    |some u=>simp[hg]at h1;exact .inl ⟨s,u,rfl,hg,by rw[if_neg ho];exact h1.symm⟩
 | .ae s::m,none::r,he,hn,0,v,h=>by simp at h
 | .ae s::m,some u::r,he,hn,t+1,v,h=>by
   simp only[fQ,gB,List.cons.injEq]at he
   simp only[eK]at hn
   simpa using gA he.2 hn t v (by simpa using h)
 | .ae s::m,none::r,he,hn,t+1,v,h=>by
   simp only[fQ,gB,List.cons.injEq,true_and]at he
   simp only[eK]at hn
   simpa using gA he hn t v (by simpa using h)
 | .nil sz::m,x::r,he,hn,t,v,h=>by
   have he':fQ τ m r=gB hp m r:=by cases x<;>exact he
   match x,hn with
   |some (.row o el 0 sz' f),hn=>
    simp only[eK,Bool.and_eq_true,beq_iff_eq]at hn
    obtain⟨rfl,hn⟩:=hn
    cases t with
    |zero=>simp at h;subst h;exact .inr ⟨sz,o,el,f,rfl,rfl⟩
    |succ t=>simpa using gA he' hn t v (by simpa using h)
theorem gD: ∀ {m:List Mv} {l:List (Option Vw)} {t s:Nat} {v:Vw},m[t]? =some (.ae s)→l[t]? =some (some v)→s∈mJ m l
 |[],l,t,s,v,h,_=>by simp at h
 |_::m,[],t,s,v,_,h=>by simp at h
 | .ae a::m,some u::r,0,s,v,h,_=>by simp at h;subst h;simp[mJ]
 | .ae a::m,none::r,0,s,v,_,h=>by simp at h
 | .nil a::m,x::r,0,s,v,h,_=>by simp at h
 | .ae a::m,some u::r,t+1,s,v,h,h'=>by simp only[mJ];exact List.mem_cons_of_mem _ (gD (by simpa using h) (by simpa using h'))
 | .ae a::m,none::r,t+1,s,v,h,h'=>by simp only[mJ];exact gD (by simpa using h) (by simpa using h')
 | .nil a::m,x::r,t+1,s,v,h,h'=>by simp only[mJ];exact gD (by simpa using h) (by simpa using h')
theorem jI: ∀ {m:List Mv} {l:List (Option Vw)} {t s:Nat} {v:Vw},m[t]? =some (.ae s)→l[t]? =some (some v)→v.own=true→s∈jD m l
 |[],l,t,s,v,h,_,_=>by simp at h
 |_::m,[],t,s,v,_,h,_=>by simp at h
 | .ae a::m,some u::r,0,s,v,h,h',ho=>by simp at h h';subst h h';simp[jD,ho]
 | .ae a::m,none::r,0,s,v,_,h,_=>by simp at h
 | .nil a::m,x::r,0,s,v,h,_,_=>by simp at h
 | .ae a::m,some u::r,t+1,s,v,h,h',ho=>by
   have:=jI (m:=m) (l:=r) (by simpa using h) (by simpa using h') ho
   grind [jD]
 | .ae a::m,none::r,t+1,s,v,h,h',ho=>by simp only[jD];exact jI (by simpa using h) (by simpa using h') ho
 | .nil a::m,x::r,t+1,s,v,h,h',ho=>by simp only[jD];exact jI (by simpa using h) (by simpa using h') ho
theorem qz: ∀ {m:List Mv} {l:List (Option Vw)},apart m l=true→ ∀ {t t' s:Nat} {v v':Vw},m[t]? =some (.ae s)→m[t']? =some (.ae s)→l[t]? =some (some v)→l[t']? =some (some v')→v.own=true→t=t'
 |[],_,_,t,t',s,v,v',h,_,_,_,_=>by simp at h
 |_::m,[],_,t,t',s,v,v',_,_,h,_,_=>by simp at h
 |_::m,_::r,ha,0,0,s,v,v',_,_,_,_,_=>rfl
 | .ae a::m,some u::r,ha,0,t'+1,s,v,v',h,h',hv,hv',ho=>by
   grind [apart,gD]
 | .ae a::m,none::r,ha,0,t'+1,s,v,v',_,_,hv,_,_=>by simp at hv
 | .nil a::m,x::r,ha,0,t'+1,s,v,v',h,_,_,_,_=>by simp at h
 | .ae a::m,some u::r,ha,t+1,0,s,v,v',h,h',hv,hv',ho=>by
   grind [apart,gD,jI]
 | .ae a::m,none::r,ha,t+1,0,s,v,v',_,_,_,hv,_=>by simp at hv
 | .nil a::m,x::r,ha,t+1,0,s,v,v',_,h,_,_,_=>by simp at h
 | .ae a::m,some u::r,ha,t+1,t'+1,s,v,v',h,h',hv,hv',ho=>by
   simp only[apart,Bool.and_eq_true]at ha
   rw[qz (m:=m) (l:=r) ha.2 (t:=t) (t':=t') (by simpa using h) (by simpa using h') (by simpa using hv) (by simpa using hv') ho]
 | .ae a::m,none::r,ha,t+1,t'+1,s,v,v',h,h',hv,hv',ho=>by
   simp only[apart]at ha
   rw[qz (m:=m) (l:=r) ha (t:=t) (t':=t') (by simpa using h) (by simpa using h') (by simpa using hv) (by simpa using hv') ho]
 | .nil a::m,x::r,ha,t+1,t'+1,s,v,v',h,h',hv,hv',ho=>by
   simp only[apart]at ha
   rw[qz (m:=m) (l:=r) ha (t:=t) (t':=t') (by simpa using h) (by simpa using h') (by simpa using hv) (by simpa using hv') ho]
theorem aX.KV {θ:Th} {base:Nat} {w:World} {d:Ad} {v:Vw} (h:aX θ base w d v):aX θ base w d v.ro:=by
 cases v with
 |box o cs=>exact⟨h.1,fun h=>by cases h⟩
 |row o el n sz f=>obtain⟨h1,h2,h3,h4,h5,h6⟩:=h;exact⟨h1,h2,h3,h4,h5,fun h=>by cases h⟩
 |map o k v f st=>obtain⟨b,h1,h2,h3⟩:=h;exact⟨b,h1,(fun h=>by cases h),h3⟩
 |obj o l x0=>obtain⟨b,h1,h2,h3⟩:=h;exact⟨b,h1,(fun h=>by cases h),h3⟩
theorem Vw.FK (v:Vw):v.ro.live→v.live:=by cases v<;>exact id
theorem bm.pull {τ:List Mv} {θ θ':Th} {w:World} {base:Nat} {hp l:List (Option Vw)} (ht: ∀ t,t<τ.length→θ' t=jG τ θ t) (he:fQ τ τ l=gB hp τ l) (hn:eK τ l=true) (hd:apart τ l=true)
  (hs:jo τ.length l) (h:bm θ base hp w):bm θ' base l w:=by
 have hb: ∀ t v,l[t]? =some (some v)→t<τ.length:=fun t v hv=>by
  grind [gA]
 refine⟨fun t v hv=> ?_,fun t t' v v' hv hv' hne ho hl a a' ha ha'=> ?_⟩
 ·have hlt:=hb t v hv
  rw[ht t hlt]
  rcases gA he hn t v hv with⟨s,u,h1,h2,h4⟩|⟨sz,o,el,f,h1,rfl⟩
  ·have h3:=h.vw s _ (aN h2)
   simp only[jG,h1]
   have h5:aX θ base w (θ s) (tk τ v):=by
    rw[←h4];split
    ·exact h3
    ·exact h3.KV
   exact h5.pull ht (hs.get hv)
  ·simp only[jG,h1]
   exact⟨rfl,Nat.le_refl _,⟨.inl rfl,fun a ha=>(nomatch ha)⟩,fun i hi=>absurd hi (Nat.not_lt_zero _),fun a ha=>(nomatch ha),fun _=> .inl ⟨rfl,rfl⟩⟩
 ·rw[ht t (hb t v hv)]at ha
  rw[ht t' (hb t' v' hv')]at ha'
  rcases gA he hn t v hv with⟨s,u,h1,h2,h5⟩|⟨sz,o,el,f,h1,rfl⟩
  ·rcases gA he hn t' v' hv' with⟨s',u',h3,h4,h6⟩|⟨sz,o,el,f,h3,rfl⟩
   ·simp only[jG,h1]at ha
    simp only[jG,h3]at ha'
    rw[if_pos ho]at h5
    refine h.ne s s' _ _ (aN h2) (aN h4) (fun e=> ?_) (by rw[h5,vN];exact ho) ?_ a a' ha ha'
    all_goals grind [Vw.FK,qz,zy,vN]
   grind [jG]
  grind [jG]
theorem kJ.pull {τ:List Mv} {θ θ':Th} (ht: ∀ t,t<τ.length→θ' t=jG τ θ t): ∀ {ss:List iD} {bo:List Frame},ss.all (fun fr=>B9 τ.length fr.tmps)=true→kJ θ (rF τ ss) bo→kJ θ' ss bo
 |[],_,_,h=>by cases h;exact .nil
 |s::ss,_,hs,h=>by
  simp only[List.all_cons,Bool.and_eq_true]at hs
  cases h with
  |cons h1 h2=>
   obtain⟨T,rfl,hT⟩:=h1
   refine .cons ⟨T,rfl, ?_,fun j v hj=> ?_⟩ (kJ.pull ht hs.2 h2)
   ·rw[hT.1];exact jB τ s.tmps
   ·rw[←ub ht v (wq hs.1 hj)]
    exact hT.2 j _ (qN τ _ j v hj)
theorem Ok.move {X:Cx} {c c':SC} (τ:List Mv) (h1:rF τ c'.bo=c.bo) (h2:fQ τ τ c'.hp=gB c.hp τ c'.hp)
  (h3:(eK τ c'.hp&&apart τ c'.hp&&stay X.n0 τ&&c'.bo.all (fun fr=>B9 τ.length fr.tmps)&&decide (τ.length=c'.hp.length))=true) (hn0:X.n0≤τ.length) (hsc:jo τ.length c'.hp) (k:Ok X c'):Ok X c:=by
 simp only[Bool.and_eq_true,decide_eq_true_eq]at h3
 obtain⟨⟨⟨⟨h4,h5⟩,h6⟩,h7⟩,h8⟩:=h3
 intro θ fr bo w hh
 refine k (jG τ θ) fr bo w ⟨fun θ' hs=> ?_,fun t htt=> ?_,by rw[←h8];exact hn0,hh.sb,hh.sz,hh.gX,hh.gb⟩
 ·have ht: ∀ t,t<τ.length→θ' t=jG τ θ t:=fun t htt=>hs t (by rw[←h8];exact htt)
  have hr:=hh.rel θ (az.refl _ _)
  refine⟨hr.hp.pull ht h2 h4 h5 hsc,kJ.pull ht h7 ?_⟩
  rw[h1];exact hr.fr
 ·have h9:=List.all_eq_true.1 h6 t (List.mem_range.2 htt)
  split at h9
  ·rename_i s hs
   rw[beq_iff_eq]at h9
   subst h9
   simp only[jG,hs]
   exact hh.ae _ htt
  ·cases h9
theorem vR: ∀ {mf:List (List Bool)} {ss:List iD} {bo:List Frame} {θ:Th},tA mf ss=true→kJ θ ss bo→kJ θ (qo mf ss) bo
 |[],[],_,θ,_,h=>by cases h;exact .nil
 |[],_::_,_,θ,hl,_=>by simp[tA]at hl
 |_::_,[],_,θ,hl,_=>by simp[tA]at hl
 |m::mf,s::ss,_,θ,hl,h=>by
  simp only[tA,Bool.and_eq_true,beq_iff_eq]at hl
  cases h with
  |cons h1 h2=>
   obtain⟨T,rfl,hT⟩:=h1
   refine .cons ⟨T,rfl, ?_,fun j v hj=> ?_⟩ (vR hl.2 h2)
   ·show T.size=(gE m s.tmps).length
    rw[jJ hl.1.1];exact hT.1
   ·exact hT.2 j v (qR hj)
theorem Ok.F2 {X:Cx} {c:SC} (mf:List (List Bool)) (h:tA mf c.bo=true) (k:Ok X ⟨qo mf c.bo,c.hp⟩):Ok X c:=by
 intro θ fr bo w hh
 refine k θ fr bo w ⟨fun θ' hs=> ?_,hh.ae,hh.len,hh.sb,hh.sz,hh.gX,hh.gb⟩
 have hr:=hh.rel θ' hs
 exact⟨hr.hp,vR h hr.fr⟩
theorem Ok.bg {X:Cx} {P:Program} {gl:List (Nat×Vw)} {c c':SC} {ps:List Prop} (n:Nat) (hs:List Hint) (mf:List (List Bool)) (τ:List Mv) (n0:Nat) (hP:X.P=P) (hgl:X.gl=gl) (hn0:X.n0=n0)
  (h:(match gR P gl n hs c with|some (ps,c1)=>some (ps,qo mf c1.bo,gB c1.hp τ c'.hp,tA mf c1.bo)|none=>none)=some (ps,rF τ c'.bo,fQ τ τ c'.hp,true))
  (h3:(eK τ c'.hp&&apart τ c'.hp&&stay n0 τ&&c'.bo.all (fun fr=>B9 τ.length fr.tmps)&&decide (τ.length=c'.hp.length)&&decide (n0≤τ.length))=true)
  (hsc:jo τ.length c'.hp) (hps:bE ps) (k:Ok X c'):Ok X c:=by
 grind [Ok.move,Ok.F2,qo,zj]
def Vw.same:Vw→Vw→Prop
 | .box o cs, .box o' cs'=>o=o'∧cs=cs'
 | .row o el n sz f, .row o' el' n' sz' f'=>o=o'∧el=el'∧n=n'∧sz=sz'∧ ∀ i,i<n→f i=f' i
 | .map o k v f st, .map o' k' v' f' st'=>o=o'∧k=k'∧v=v'∧(∀ a,f a=f' a)∧st=st'
 | .obj o l x, .obj o' l' x'=>o=o'∧l=l'∧x=x'
 |_,_=>False
theorem aX.same {θ:Th} {base:Nat} {w:World} {d:Ad} {v v':Vw} (hs:v.same v') (h:aX θ base w d v):aX θ base w d v':=by
 cases v<;>cases v'<;>simp only[Vw.same]at hs
 ·simp_all
 ·obtain⟨rfl,rfl,rfl,rfl,hf⟩:=hs
  obtain⟨h1,h2,h3,h4,h5,h6⟩:=h
  exact⟨h1,h2,h3,fun i hi=>by rw[←hf i hi];exact h4 i hi,fun a ha i hi=>by rw[←hf i hi];exact h5 a ha i hi,h6⟩
 ·obtain⟨rfl,rfl,rfl,hf,rfl⟩:=hs
  obtain⟨b,h1,h2,es,c,h3,m1,m2,m3,m4⟩:=h
  exact⟨b,h1,h2,es,c,h3,m1,m2,fun a=>by rw[←hf a];exact m3 a,m4⟩
 simp_all
theorem Vw.xB {v v':Vw} (h:v.same v'):v'.own=v.own:=by
 cases v<;>cases v'<;>simp only[Vw.same]at h<;>simp[Vw.own,h.1]
theorem Vw.Ca {v v':Vw} (h:v.same v') (hl:v'.live):v.live:=by
 cases v<;>cases v'<;>simp only[Vw.same]at h
 ·simp_all
 ·obtain⟨rfl,rfl,rfl,rfl,hf⟩:=h;exact hl
 ·trivial
 ·trivial
def aG:List (Option Vw)→List (Option Vw)→Prop
 |[],[]=>True
 |none::r,none::r'=>aG r r'
 |some v::r,some v'::r'=>v.same v'∧aG r r'
 |_,_=>False
theorem aG.length: ∀ {a b:List (Option Vw)},aG a b→a.length=b.length
 |[],[],_=>rfl
 |none::r,none::r',h=>by simp only[List.length_cons];rw[aG.length (a:=r) (b:=r') h]
 |some v::r,some v'::r',h=>by simp only[List.length_cons];rw[aG.length h.2]
 |[],_::_,h=>by cases h
 |none::_,[],h=>by cases h
 |some _::_,[],h=>by cases h
 |none::_,some _::_,h=>by cases h
 |some _::_,none::_,h=>by cases h
theorem aG.get: ∀ {a b:List (Option Vw)},aG a b→ ∀ {t:Nat} {v:Vw},b[t]? =some (some v)→ ∃ u,a[t]? =some (some u)∧u.same v
 |[],[],_,t,v,h=>by simp at h
 |none::r,none::r',h,0,v,hv=>by simp at hv
 |none::r,none::r',h,t+1,v,hv=>by simpa using aG.get (a:=r) (b:=r') h (t:=t) (v:=v) (by simpa using hv)
 |some u::r,some u'::r',h,0,v,hv=>by simp at hv;subst hv;exact⟨u,rfl,h.1⟩
 |some u::r,some u'::r',h,t+1,v,hv=>by simpa using aG.get h.2 (t:=t) (v:=v) (by simpa using hv)
 |[],_::_,h,_,_,_=>by cases h
 |none::_,[],h,_,_,_=>by cases h
 |some _::_,[],h,_,_,_=>by cases h
 |none::_,some _::_,h,_,_,_=>by cases h
 |some _::_,none::_,h,_,_,_=>by cases h
theorem bm.same {θ:Th} {base:Nat} {w:World} {a b:List (Option Vw)} (hs:aG a b) (h:bm θ base a w):bm θ base b w:=by
 refine⟨fun t v hv=> ?_,fun t t' v v' hv hv' hne ho hl x x' hx hx'=> ?_⟩
 ·obtain⟨u,hu,hs'⟩:=hs.get hv
  exact(h.vw t u hu).same hs'
 ·obtain⟨u,hu,hs1⟩:=hs.get hv
  obtain⟨u',hu',hs2⟩:=hs.get hv'
  exact h.ne t t' u u' hu hu' hne (by rw[←Vw.xB hs1];exact ho) (hl.imp (fun e=>by rw[←Vw.xB hs2];exact e) (Vw.Ca hs2)) x x' hx hx'
theorem aG.append: ∀ {a b c d:List (Option Vw)},aG a b→aG c d→aG (a++c) (b++d)
 |[],[],c,d,_,h=>h
 |none::r,none::r',c,d,h,k=>aG.append (a:=r) (b:=r') h k
 |some v::r,some v'::r',c,d,h,k=>⟨h.1,aG.append h.2 k⟩
 |[],_::_,_,_,h,_=>by cases h
 |none::_,[],_,_,h,_=>by cases h
 |some _::_,[],_,_,h,_=>by cases h
 |none::_,some _::_,_,_,h,_=>by cases h
 |some _::_,none::_,_,_,h,_=>by cases h
theorem Vw.iI (v:Vw):v.same v:=by cases v<;>simp[Vw.same]
theorem Vw.B_ {v v':Vw} (h:v.same v'):v'.same v:=by
 cases v<;>cases v'<;>simp only[Vw.same]at h⊢
 all_goals simp_all
theorem aG.symm: ∀ {a b:List (Option Vw)},aG a b→aG b a
 |[],[],_=>trivial
 |none::r,none::r',h=>aG.symm (a:=r) (b:=r') h
 |some v::r,some v'::r',h=>⟨Vw.B_ h.1,aG.symm h.2⟩
 |[],_::_,h=>by cases h
 |none::_,[],h=>by cases h
 |some _::_,[],h=>by cases h
 |none::_,some _::_,h=>by cases h
 |some _::_,none::_,h=>by cases h
theorem aG.refl: ∀ (a:List (Option Vw)),aG a a
 |[]=>trivial
 |none::r=>aG.refl r
 |some v::r=>⟨v.iI,aG.refl r⟩
theorem ab.same {P:Program} {gl:List (Nat×Vw)} {f:FuncId} {args:List SV} {hp hp':List (Option Vw)} {res:SV} {new new':List (Option Vw)} (h:ab P gl f args hp res new) (h1:aG hp' hp) (h2:aG new new'):
  ab P gl f args hp' res new':=by
 intro θ w hh hg cs
 obtain⟨e,w',fr',⟨hb,r,he,nw,hn⟩,hc,h3,h4⟩:=h θ w (hh.same h1) hg cs
 refine⟨e,w',fr',⟨hb,r,he,nw,fun θ' hs hk=> ?_⟩,hc,h3,h4⟩
 rw[h1.length]at hs hk
 rw[←h2.length]at hk
 obtain⟨h5,h6⟩:=hn θ' hs hk
 refine⟨h5, ?_⟩
 exact h6.same (h1.symm.append h2)
theorem av.same {X:Cx} {P:Program} {gl:List (Nat×Vw)} {f:FuncId} {hp0 new new':List (Option Vw)} {res:SV} (hX:av X P gl f hp0 res new) (h:aG new' new):av X P gl f hp0 res new':=by
 obtain⟨h1,h2,h3,hce,h4,h5,h6,h7,h8⟩:=hX
 refine⟨h1,h2,h3,hce,h4,h5,h6,h7,fun r w' hb hr=>h8 r w' hb ?_⟩
 obtain⟨nw,hn⟩:=hr
 refine⟨nw,fun θ' hs hk=> ?_⟩
 obtain⟨h9,h10⟩:=hn θ' hs (by rw[h.length];exact hk)
 exact⟨h9,h10.same ((aG.refl hp0).append h)⟩
def wQ (P:Program) (f:FuncId):Bool:=match P.funcs[f]? with
 |some fn=>fn.body.isSome
 |none=>false
theorem ab.of {P:Program} {gl:List (Nat×Vw)} {f:FuncId} {args:List SV} {hp0:List (Option Vw)} {res:SV} {new:List (Option Vw)} (hb:wQ P f=true)
  (hsc:uP hp0.length args=true) (hh:jo hp0.length hp0) (hro:IZ hp0=true) (h: ∀ X,av X P gl f hp0 res new→Ok X (entry P f args hp0)):ab P gl f args hp0 res new:=by
 refine ab.intro (fun he=> ?_) hsc hh hro h
 grind [entry,wQ]
def tZ (t:Nat):Nat:=t-1
theorem ab.dup {P:Program} {gl:List (Nat×Vw)} {f:FuncId} {args args':List SV} {v:Vw} {res res':SV} {new:List (Option Vw)} (h:ab P gl f args [some v,some v] res new) (ho:v.own=false) (hs:KH 0 v) (hn:jo 0 new)
  (ha:dU tZ args=args') (hr:ew tZ res=res'):ab P gl f args' [some v] res' new:=by
 intro θ w hh hg cs
 have hv:aX θ w.heap.size w (θ 0) v:=hh.vw 0 v rfl
 have hz: ∀ a b:Th,az 0 a b:=fun a b t ht=>absurd ht (Nat.not_lt_zero _)
 have hh2:bm (fun t=>θ (tZ t)) w.heap.size [some v,some v] w:=by
  refine⟨fun t u hu=> ?_,fun t t' u u' hu hu' hne hown=> ?_⟩
  ·match t,hu with
   |0,hu=>simp at hu;subst hu;exact hv.sc (hz _ _) hs
   |1,hu=>simp at hu;subst hu;exact hv.sc (hz _ _) hs
   |t+2,hu=>simp at hu
  grind
 obtain⟨e,w',fr',⟨hb,r,he,nw,hk⟩,hc,h3,h4⟩:=h (fun t=>θ (tZ t)) w hh2 hg cs
 rw[←fA,ha]at hc
 refine⟨e,w',fr',⟨hb,r,he,nw,fun θ' hs' hk'=> ?_⟩,hc,h3,h4⟩
 obtain⟨h5,h6⟩:=hk (fun t=>θ' (tZ t)) (fun t ht=>hs' _ (by simp only[List.length_cons,List.length_nil,tZ]at ht⊢;omega)) (fun k hk2=>by
  show θ' (tZ (2+k))=_
  rw[show tZ (2+k)=1+k by unfold tZ;omega]
  exact hk' k hk2)
 rw[←gZ,hr]at h5
 refine⟨h5,fun t u hu=> ?_,fun t t' u u' hu hu' hne hown hl a a' haa haa'=> ?_⟩
 ·match t,hu with
  |0,hu=>
   simp at hu;subst hu
   exact(h6.vw 0 _ rfl).sc (hz _ _) hs
  |k+1,hu=>
   have hu2:new[k]? =some (some u):=by simpa using hu
   exact(h6.vw (k+2) u (by simpa using hu2)).sc (hz _ _) (hn.get hu2)
 ·have key: ∀ t u,([some v]++new)[t]? =some (some u)→([some v,some v]++new)[if t=0 then 0 else t+1]? =some (some u)∧tZ (if t=0 then 0 else t+1)=t:=by
   grind [tZ]
  obtain⟨k1,k2⟩:=key t u hu
  obtain⟨k3,k4⟩:=key t' u' hu'
  refine h6.ne _ _ u u' k1 k3 (fun hq=>hne ?_) hown hl a a' (by rw[k2];exact haa) (by rw[k4];exact haa')
  rw[←k2,←k4,hq]
end Go.Sx
namespace Go.Sx
open Go.RowKit
def a_ (rows:List (List SV)) (i:Nat):List SV:=rows.getD i []
theorem so {n:Nat} {rows:List (List SV)} (h:rows.all (uP n)=true) (i:Nat):uP n (a_ rows i)=true:=by
 unfold a_
 rw[List.getD_eq_getElem?_getD]
 cases hr:rows[i]? with
 |none=>rfl
 |some r=>exact List.all_eq_true.1 h r (List.mem_of_getElem? hr)
abbrev jn (x:Int):Prop:=aj .u64 x
abbrev Wu (x:Int):Int:=IntKind.wrap .u64 x
abbrev Ir (x:Int):Prop:=aj .i64 x
theorem aq (b:Bool):b=true∨b=false:=by cases b<;>simp
theorem Me {b:Bool} {C:Prop} (h:b=true) (h':b=false):C:=by rw[h]at h';cases h'
end Go.Sx
namespace Go.Sx
open Go.RowKit
structure It where
 hs:List Hint
 ps:List Prop
 pf:bE ps
def hL:List It→List Hint
 |[]=>[]
 |i::r=>i.hs++hL r
def pL:List It→List Prop
 |[]=>[]
 |i::r=>i.ps++pL r
theorem bE.app: ∀ {ps qs:List Prop},bE ps→bE qs→bE (ps++qs)
 |[],_,_,k=>k
 |_::_,_,h,k=>⟨h.1,bE.app h.2 k⟩
theorem Hb: ∀ l,bE (pL l)
 |[]=>trivial
 |i::r=>bE.app i.pf (Hb r)
def qD:List Prop→Prop
 |[]=>True
 |p::ps=>p∧qD ps
theorem B4: ∀ l,qD l=bE l
 |[]=>rfl
 |p::ps=>by rw[qD,bE,B4 ps]
theorem wF (l:List It):qD (pL l):=by rw[B4];exact Hb l
def c_ (σ:List Nat) {P:Program} {gl:List (Nat×Vw)} {f:FuncId} {args:List SV} {hp:List (Option Vw)} {res:SV} {new:List (Option Vw)} (h:ab P gl f args hp res new):It:=⟨[.call σ res new],[ab P gl f args hp res new],h,trivial⟩
def q_ {p:Prop} (h:p):It:=⟨[],[p],h,trivial⟩
def t_ {b:Bool} (h:b=true):It:=⟨[.b true],[b=true],h,trivial⟩
def f_ {b:Bool} (h:b=false):It:=⟨[.b false],[b=false],h,trivial⟩
def b_ {b:Bool} (v:Bool) (h:b=v):It:=⟨[.b v],[b=v],h,trivial⟩
def h_ (hs:List Hint):It:=⟨hs,[],trivial⟩
def d_ (m:Nat):It:=⟨[.draw m [] 0],[],trivial⟩
def i_:It:=⟨[.inl],[],trivial⟩
def n_:Nat→It→It
 |0,_=>⟨[],[],trivial⟩
 |n+1,i=>⟨i.hs++(n_ n i).hs,i.ps++(n_ n i).ps,bE.app i.pf (n_ n i).pf⟩
def l_ (rows:List (List SV)):It:=⟨[.row (a_ rows)],[∀ k,k<rows.length→a_ rows k=rows.getD k []],fun _ _=>rfl,trivial⟩
def sW (P:Program) (gl:List (Nat×Vw)):Nat→List Hint→SC→List Prop×List Hint×SC
 |0,hs,c=>([],hs,c)
 |n+1,hs,c=>match qJ P gl hs c with
  |some (ps,hs',c')=>match sW P gl n hs' c' with
   |(qs,hs2,c2)=>(ps++qs,hs2,c2)
  |none=>([],hs,c)
def KP (P:Program) (gl:List (Nat×Vw)) (hs:List Hint) (c:SC):SC:=(sW P gl 5000 hs c).2.2
theorem En {X:Cx}: ∀ {n:Nat} {hs:List Hint} {c:SC},bE (sW X.P X.gl n hs c).1→Ok X (sW X.P X.gl n hs c).2.2→Ok X c
 |0,hs,c,_,hk=>hk
 |n+1,hs,c,hps,hk=>by
  simp only[sW]at hps hk
  split at hk
  ·rename_i ps hs' c' h1
   rw[h1]at hps
   dsimp only at hps hk
   exact AU h1 (aK hps).1 (En (aK hps).2 hk)
  ·exact hk
section
variable {X:Cx} {P:Program} {gl:List (Nat×Vw)} {f:FuncId} {hp0 new:List (Option Vw)} {res:SV} {c:SC}
theorem Ok.goes (hP:X.P=P) (hG:X.gl=gl) (its:List It) (k:Ok X (KP P gl (hL its) c)) (h:(fun r:List Prop×List Hint×SC=>(bE r.1,r.2.1)) (sW P gl 5000 (hL its) c)=(qD (pL its),[])):Ok X c:=by
 subst hP hG
 refine En (n:=5000) (hs:=hL its) ?_ k
 grind [wF]
theorem av.go (hX:av X P gl f hp0 res new) (its:List It) (k:Ok X (KP P gl (hL its) c)) (h:(fun r:List Prop×List Hint×SC=>(bE r.1,r.2.1)) (sW P gl 5000 (hL its) c)=(qD (pL its),[]):=by kernel_rfl):Ok X c:=
 Ok.goes hX.P hX.gl its k h
theorem av.e (hX:av X P gl f hp0 res new) (its:List It) (τ:List Nat:=[])
  (h:(fun r:List Prop×List Hint×SC=>(bE r.1,r.2.1,yG P gl f r.2.2,τ.map (bL r.2.2.hp),xa τ r.2.2.hp.length)) (sW P gl 5000 (hL its) c)=
   (fun N=>(qD (pL its),[],some (ew (ik hp0.length τ N) res),new.map (fun x=>x.map (Vw.ew (ik hp0.length τ N))),true)) (KP P gl (hL its) c).hp.length:=by kernel_rfl):Ok X c:=by
 simp only[Prod.mk.injEq]at h
 obtain⟨h1,h2,h3,h4,h5⟩:=h
 simp only[xa,Bool.and_eq_true]at h5
 refine Ok.goes hX.P hX.gl its (Ex (τ:=τ) hX h3 h4 h5.1 h5.2) ?_
 simp_all
def aA (n:Nat):List Mv:=(List.range n).map .ae
def wK (l:List iD):List (List Bool):=l.map fun f=>f.tmps.map Option.isSome
theorem Ok.Jj {c':SC} (n:Nat) (its:List It) (τ:List Mv) (n0:Nat) (hP:X.P=P) (hgl:X.gl=gl) (hn0:X.n0=n0) (k:Ok X c')
  (h:(match gR P gl n (hL its) c with|some (ps,c1)=>some (bE ps,qo (wK c'.bo) c1.bo,gB c1.hp τ c'.hp,tA (wK c'.bo) c1.bo)|none=>none)=some (qD (pL its),rF τ c'.bo,fQ τ τ c'.hp,true))
  (h3:(eK τ c'.hp&&apart τ c'.hp&&stay n0 τ&&c'.bo.all (fun fr=>B9 τ.length fr.tmps)&&decide (τ.length=c'.hp.length)&&decide (n0≤τ.length))=true)
  (hsc:jo τ.length c'.hp):Ok X c:=by
 split at h
 ·rename_i ps' c1 hr
  simp only[Option.some.injEq,Prod.mk.injEq]at h
  obtain⟨h2,h4,h5,h6⟩:=h
  refine Ok.bg n (hL its) (wK c'.bo) τ n0 hP hgl hn0 (ps:=ps') ?_ h3 hsc (by rw[h2];exact wF its) k
  simp_all
 ·cases h
theorem av.h {c':SC} (hX:av X P gl f hp0 res new) (n:Nat) (its:List It) (τ:List Mv) (k:Ok X c')
  (h:(match gR P gl n (hL its) c with|some (ps,c1)=>some (bE ps,qo (wK c'.bo) c1.bo,gB c1.hp τ c'.hp,tA (wK c'.bo) c1.bo)|none=>none)=some (qD (pL its),rF τ c'.bo,fQ τ τ c'.hp,true):=by kernel_rfl)
  (h3:(eK τ c'.hp&&apart τ c'.hp&&stay hp0.length τ&&c'.bo.all (fun fr=>B9 τ.length fr.tmps)&&decide (τ.length=c'.hp.length)&&decide (hp0.length≤τ.length))=true:=by kernel_rfl)
  (hsc:jo τ.length c'.hp:=by repeat' first|exact trivial|exact fun _=>rfl|exact rfl|exact so (by rfl)|refine⟨?_, ?_⟩):Ok X c:=
 Ok.Jj n its τ hp0.length hX.P hX.gl hX.n0 k h h3 hsc
theorem ab.st {args:List SV} (h: ∀ X,av X P gl f hp0 res new→Ok X (entry P f args hp0)) (hb:(wQ P f&&uP hp0.length args&&IZ hp0)=true:=by kernel_rfl)
  (hh:jo hp0.length hp0:=by repeat' first|exact trivial|exact fun _=>rfl|exact rfl|exact so (by rfl)|refine⟨?_, ?_⟩):ab P gl f args hp0 res new:=by
 grind [ab.of]
end
end Go.Sx
namespace Go.Sx
open Go.RowKit
def aJ (X:Cx) (fr:Frame) (cs:List Frame) (w:World):Prop:= ∃ e w' fr',X.R e w'∧Comes X.P (lone fr cs w) (lone fr' X.ce w') e∧fr'.fn=X.f0∧fr'.leaving X.P w' e
theorem aJ.head {X:Cx} {fr fr2:Frame} {cs cs2:List Frame} {w w2:World} (h:step X.P (lone fr cs w)= .next (lone fr2 cs2 w2)) (k:aJ X fr2 cs2 w2):aJ X fr cs w:=by
 obtain⟨e,w',fr',hR,hc,h1,h2⟩:=k
 exact⟨e,w',fr',hR,Comes.of_steps (.one h) hc,h1,h2⟩
def Cx.C3 (X:Cx) (θ:Th) (n:Nat) (w:World) (cs:List Frame):Cx:={X with base:=w.heap.size,w0:=w,θ0:=θ,n0:=n,cs:=cs}
def gy:List (Option Vw)→List (Option Vw)→Prop
 |[],[]=>True
 |_::r,none::r'=>gy r r'
 |some v::r,some u::r'=>v.ro=u∧gy r r'
 |_,_=>False
theorem gy.get: ∀ {a b:List (Option Vw)},gy a b→ ∀ {t:Nat} {u:Vw},b[t]? =some (some u)→ ∃ v,a[t]? =some (some v)∧v.ro=u
 |[],[],_,t,u,h=>by simp at h
 |x::r,none::r',h,0,u,hu=>by simp at hu
 |x::r,none::r',h,t+1,u,hu=>by
  have h':gy r r':=by cases x<;>exact h
  simpa using gy.get h' (t:=t) (u:=u) (by simpa using hu)
 |some v::r,some u'::r',h,0,u,hu=>by simp at hu;subst hu;exact⟨v,rfl,h.1⟩
 |some v::r,some u'::r',h,t+1,u,hu=>by simpa using gy.get h.2 (t:=t) (u:=u) (by simpa using hu)
 |none::r,some u'::r',h,_,_,_=>by cases h
 |[],x::_,h,_,_,_=>by cases x<;>cases h
theorem gy.length: ∀ {a b:List (Option Vw)},gy a b→a.length=b.length
 |[],[],_=>rfl
 |x::r,none::r',h=>by
  have h':gy r r':=by cases x<;>exact h
  simp only[List.length_cons];rw[gy.length h']
 |some v::r,some u'::r',h=>by simp only[List.length_cons];rw[gy.length h.2]
 |none::r,some u'::r',h=>by cases h
 |[],x::_,h=>by cases x<;>cases h
 |_::_,[],h=>by cases h
theorem aX.JI {θ:Th} {b b':Nat} {w:World} {d:Ad} {v:Vw} (h:aX θ b w d v):aX θ b' w d v.ro:=by
 cases v with
 |box o cs=>exact⟨h.1,fun h=>by cases h⟩
 |row o el n sz f=>obtain⟨h1,h2,h3,h4,h5,h6⟩:=h;exact⟨h1,h2,h3,h4,h5,fun h=>by cases h⟩
 |map o k v f st=>obtain⟨b,h1,h2,h3⟩:=h;exact⟨b,h1,(fun h=>by cases h),h3⟩
 |obj o l x0=>obtain⟨b,h1,h2,h3⟩:=h;exact⟨b,h1,(fun h=>by cases h),h3⟩
theorem bm.gy {θ:Th} {b b':Nat} {w:World} {hp hp':List (Option Vw)} (h:bm θ b hp w) (hr:Go.Sx.gy hp hp'):bm θ b' hp' w:=by
 refine⟨fun t u hu=> ?_,fun t t' u u' hu hu' hne ho=> ?_⟩
 ·obtain⟨v,hv,rfl⟩:=hr.get hu
  exact(h.vw t v hv).JI
 ·obtain⟨v,hv,rfl⟩:=hr.get hu
  rw[C9]at ho;cases ho
abbrev Mem (X:Cx) (θ:Th) (hp:List (Option Vw)) (w:World):Prop:=dz X θ ⟨[],hp⟩ [] w
theorem Mem.hp {X:Cx} {θ:Th} {hp:List (Option Vw)} {w:World} (h:Mem X θ hp w) {θ':Th} (hs:az hp.length θ θ'):bm θ' X.base hp w:=(h.rel θ' hs).hp
theorem Mem.mk' {X:Cx} {θ:Th} {hp:List (Option Vw)} {w:World} (h: ∀ θ',az hp.length θ θ'→bm θ' X.base hp w) (ho:az X.n0 X.θ0 θ) (hl:X.n0≤hp.length) (hb:Below X.base X.w0 w) (hs:X.base≤w.heap.size) (hg:vr X.gl w) (hgb: ∀ g v,(g,v)∈X.gl→g<X.base):Mem X θ hp w:=
 ⟨fun θ' hs=>⟨h θ' hs, .nil⟩,ho,hl,hb,hs,hg,hgb⟩
theorem dz.mem {X:Cx} {θ:Th} {c:SC} {fs:List Frame} {w:World} (h:dz X θ c fs w):Mem X θ c.hp w:=⟨fun θ' hs=>⟨(h.rel θ' hs).hp, .nil⟩,h.ae,h.len,h.sb,h.sz,h.gX,h.gb⟩
theorem Mem.below {X:Cx} {θ:Th} {hp:List (Option Vw)} {w w':World} (h:Mem X θ hp w) (hb:Below w.heap.size w w'):Mem X θ hp w':=
 Mem.mk' (fun θ' hs=>(h.hp hs).below hb) h.ae h.len (h.sb.trans (hb.mono h.sz)) (Nat.le_trans h.sz hb.size) (h.gX.below h.gb (hb.mono h.sz)) h.gb
theorem Mem.alloc {X:Cx} {θ:Th} {hp:List (Option Vw)} {w:World} (h:Mem X θ hp w) (o:Obj):Mem X θ hp (w.alloc o):=h.below (bR w o)
def IJ:Obj→Bool
 | .cells _ _ _=>true
 | .map _ _=>true
 |_=>false
def pc:List (Option Vw)→Bool
 |[]=>true
 |some (.obj _ _ _)::_=>false
 |_::r=>pc r
theorem pc.get: ∀ {hp:List (Option Vw)},pc hp=true→ ∀ {t:Nat} {o:Bool} {l:Nat} {x:Obj},hp[t]? ≠some (some (.obj o l x))
 |[],_,t,o,l,x,h=>by simp at h
 |some (.obj _ _ _)::_,h,_,_,_,_,_=>by simp[pc]at h
 |none::r,h,t,o,l,x,e=>by
  cases t with
  |zero=>simp at e
  |succ t=>exact pc.get (hp:=r) h (by simpa using e)
 |some (.box _ _)::r,h,t,o,l,x,e=>by
  cases t with
  |zero=>simp at e
  |succ t=>exact pc.get (hp:=r) h (by simpa using e)
 |some (.row _ _ _ _ _)::r,h,t,o,l,x,e=>by
  cases t with
  |zero=>simp at e
  |succ t=>exact pc.get (hp:=r) h (by simpa using e)
 |some (.map _ _ _ _ _)::r,h,t,o,l,x,e=>by
  cases t with
  |zero=>simp at e
  |succ t=>exact pc.get (hp:=r) h (by simpa using e)
theorem Mem.putObj {X:Cx} {θ:Th} {hp:List (Option Vw)} {w:World} {l:Nat} {o o':Obj} (h:Mem X θ hp w) (hl:w.heap[l]? =some o) (hc:IJ o=false) (hb:X.base≤l) (hno:pc hp=true:=by rfl):Mem X θ hp (w.putObj l o'):=by
 have hlt:=(Array.getElem?_eq_some_iff.1 hl).1
 have hne: ∀ {b:Nat} {c:Array Value} {el:TypeId} {z:Nat×Nat},w.heap[b]? =some (.cells c el z)→b≠l:=fun hb' e=>by
  subst e;rw[hl]at hb';cases hb';cases hc
 have hcell: ∀ {a:Addr} {v:Value},w.cell? a=some v→(w.putObj l o').cell? a=some v:=fun {a v} ha=>by
  rw[←ha]
  refine World.cell?_of_block (World.putObj_heap_other ?_)
  intro e
  have:w.cell? a=none:=by
   unfold World.cell?
   grind
  rw[this]at ha;cases ha
 have hL: ∀ {θ:Th} {a:Addr} {j:Nat} {cs:List SV},eC θ w a j cs→eC θ (w.putObj l o') a j cs:=fun hl k v hk=>hcell (hl k v hk)
 have hB: ∀ {b:Nat} {c:Array Value} {el:TypeId} {z:Nat×Nat},w.heap[b]? =some (.cells c el z)→(w.putObj l o').heap[b]? =some (.cells c el z):=fun hb'=>by
  rw[World.putObj_heap_other (hne hb')];exact hb'
 have hB': ∀ {b:Nat} {es:Array MapEntry} {c:Nat},w.heap[b]? =some (.map es c)→(w.putObj l o').heap[b]? =some (.map es c):=fun {b} {es} {c} hb'=>by
  rw[World.putObj_heap_other (fun e=>by subst e;rw[hl]at hb';cases hb';cases hc)];exact hb'
 have hbel:Below X.base w (w.putObj l o'):=(Below.refl X.base w).grown (grownBy_putObj' w l o') h.sz (fun k e=>by cases e;omega)
 refine Mem.mk' (fun θ' hs=> ?_) h.ae h.len (h.sb.trans hbel) (Nat.le_trans h.sz hbel.size) (h.gX.below h.gb hbel) h.gb
 obtain⟨h1,h2⟩:=h.hp hs
 refine⟨fun t v hv=> ?_,h2⟩
 have h3:=h1 t v hv
 cases v with
 |box o cs=>
  refine⟨fun hn=> ?_,fun ho=> ?_⟩
  ·obtain⟨a,ha,hl⟩:=h3.1 hn;exact⟨a,ha,hL hl⟩
  ·obtain⟨b,h1,h2,c,el,h3,h4⟩:=h3.2 ho;exact⟨b,h1,h2,c,el,hB h3,h4⟩
 |row o el n sz f=>
  obtain⟨e1,e2,e3,e4,e5,e6⟩:=h3
  refine⟨e1,e2,e3,e4,fun a ha i hi=>hL (e5 a ha i hi),fun ho=> ?_⟩
  grind
 |map o k v f st=>obtain⟨b,h1,h2,es,c,h4,h5⟩:=h3;exact⟨b,h1,h2,es,c,hB' h4,h5⟩
 |obj o l x0=>exact absurd hv (pc.get hno)
theorem e8 {X:Cx} {θ:Th} {hp hp':List (Option Vw)} {w:World} {rx:Rx} {fn:FuncId} {l:List (Option SV)} {T:Array Value} {todo:List Item} {cs:List Frame} (hm:Mem X θ hp w) (hr:gy hp hp')
  (hT: ∀ θ',az hp.length θ θ'→eV θ' l T) (h:Ok (X.C3 θ hp.length w cs) ⟨[⟨fn,l,todo,rx⟩],hp'⟩):aJ X (au rx fn T todo) cs w:=by
 have hl:=hr.length
 refine h θ (au rx fn T todo) [] w ⟨fun θ' hs=> ?_,az.refl _ _,by show hp.length≤hp'.length;omega,Below.refl _ _,Nat.le_refl _,hm.gX,fun g v hg=>Nat.lt_of_lt_of_le (hm.gb g v hg) hm.sz⟩
 have hs':az hp.length θ θ':=by rw[hl];exact hs
 exact⟨(hm.hp hs').gy hr, .cons ⟨T,rfl,hT θ' hs'⟩ .nil⟩
theorem FE {X:Cx} {θ θ2:Th} {hp hp2:List (Option Vw)} {w w2:World} {cs:List Frame} {bo:List iD} {fs:List Frame} (hm:Mem X θ hp w) (h:dz (X.C3 θ hp.length w cs) θ2 ⟨bo,hp2⟩ fs w2):
  Mem X θ2 hp w2∧Below w.heap.size w w2∧az hp.length θ θ2:=by
 have hb:Below w.heap.size w w2:=h.sb
 have hs0:az hp.length θ θ2:=h.ae
 have h1:=hm.below hb
 refine⟨Mem.mk' (fun θ' hs=>h1.hp (hs0.trans hs)) (fun t ht=> ?_) hm.len h1.sb h1.sz h1.gX hm.gb,hb,hs0⟩
 rw[hs0 t (Nat.lt_of_lt_of_le ht hm.len)]
 exact hm.ae t ht
section
variable {P:Program} {k:List Item} {cs:List Frame} {w:World} {ops:Array Oper} {rx:Rx} {fn:FuncId} {T:Array Value} {o:Oper} {i:Nat} {rest:List Nat}
theorem C6 (l:Nat) (f:FuncId) (T:Array Value) (assign body:Code):Frame.round l f T assign body .normal=au ⟨some l,[],false⟩ f T [.code assign, .beginRound, .code body]:=rfl
theorem rp {l:Nat} {f:FuncId} {T':Array Value} {assign body:Code} {w':World} (ho:ops[i]? =some o) (hw:Region.wanted o (yielded ops T)=true) (hr:(execOp (Act.mk T []).eval o).run P w= .ok (.round l f T' assign body) w'):
  step P (lone (au rx fn T (.inRegion ops (i::rest)::k)) cs w)= .next (lone (au ⟨some l,[],false⟩ f T' [.code assign, .beginRound, .code body]) (au rx fn T (.inRegion ops (i::rest)::k)::cs) w'):=by
 have hg:=p_ (rx:=rx) (fn:=fn) (k:=k) (cs:=cs) (rest:=rest) ho hw hr (by simp)
 refine step_lone_go ?_
 rw[hg,←C6];simp[stepG.apply,hr,au,Frame.atR]
theorem o8 {ρ:Operand→Value} {f:Operand} {args:Array Operand} {ats:Array TypeId} {l:Nat} {r:Loop} {vs:Array Value} (ho:o.op= .call ⟨.value f,args,ats⟩) (hf:ρ f= .func (.yield l) #[] #[]) (ha:args.map ρ=vs)
  (hl:w.heap[l]? =some (.loop r)) (hs:vs.size=r.params.size):
  (execOp ρ o).run P w= .ok (.round l r.fn ((r.params.zip vs).foldl (fun tmps (t,a)=>tmps.setIfInBounds t a) r.tmps) r.assign r.body) w:=by
 have h:=run_yield (P:=P) (args:=vs) hl hs
 simp[execOp,ho,resolve,hf,ha,Deferred.ofValue,invoke,Sem.run_bind,h]
end
theorem aJ.rangeFunc {X:Cx} {fn:FuncId} {T:Array Value} {k:List Item} {cs:List Frame} {w:World} {g:Operand} {ps:Array Tmp} {assign body:Code} {gf:FuncId} {lb:Array Value} {F:Func} {b:Code}
  (hg:(Act.mk T []).eval g= .func (.func gf) #[] lb) (hf:X.P.funcs[gf]? =some F) (hnm:(F.name== "runtime.NumGoroutine")=false) (hb:F.body=some b)
  (k':aJ X (au {} gf ((#[.func (.yield (w.heap.size+1)) #[] #[]]++lb)++Array.replicate (F.ntmps-(#[Value.func (.yield (w.heap.size+1)) #[] #[]]++lb).size) undef) [.code b])
   (au ⟨none,[{target:= .collected w.heap.size,args:= #[]}],false⟩ fn T (.inRangeFunc (w.heap.size+1)::k)::cs)
   ((w.alloc (.deferred (some []))).alloc (.loop {state:= .ready,pending:=none,fn,tmps:=T,params:=ps,assign,body,defers:=w.heap.size}))):
  aJ X (au {} fn T (.code (.rangeFunc g ps assign body)::k)) cs w:=by
 have hcall: ∀ args w,(callFunc gf args).run X.P w= .ok (.enter gf args) w:=fun args w=>by
  have h1:F.name≠ "runtime.NumGoroutine" :=by simpa using hnm
  simp[callFunc,hf,h1,hb,Sem.run_bind]
 have hst:=stepR_rangeFunc (P:=X.P) (b:={(default:Frame)with fn:=fn,kind:= .normal,roundOf:=none}) (a:=⟨T,[]⟩) (k:=k) (cs:=cs) (w:=w) (g:=g) (ps:=ps) (assign:=assign) (body:=body)
  (d:={target:= .fn (.func gf) lb,args:= #[.func (.yield (w.heap.size+1)) #[] #[]]}) (f:=gf) (args:= #[.func (.yield (w.heap.size+1)) #[] #[]]++lb)
  (w₁':=(w.alloc (.deferred (some []))).alloc (.loop {state:= .ready,pending:=none,fn,tmps:=T,params:=ps,assign,body,defers:=w.heap.size})) (w₂:=(w.alloc (.deferred (some []))).alloc (.loop {state:= .ready,pending:=none,fn,tmps:=T,params:=ps,assign,body,defers:=w.heap.size}))
  (run_enterLoop_outer (P:=X.P) (w:=w) fn T ps assign body) (by simp only[resolve,hg];simp[Deferred.ofValue,Sem.run_bind,Sem.run_pure,Result.andThen_ok,Act.eval]) (by simp[invoke,hcall])
 rw[tW hf hb]at hst
 exact aJ.head hst k'
theorem aJ.beginRound {X:Cx} {fn:FuncId} {T:Array Value} {k:List Item} {cs:List Frame} {w:World} {l:Nat} {r:Loop} (hl:w.heap[l]? =some (.loop r)) (hr:r.state= .ready)
  (k':aJ X (au ⟨some l,[],false⟩ fn T k) cs (w.putObj l (.loop {r with state:= .busy}))):aJ X (au ⟨some l,[],false⟩ fn T (.beginRound::k)) cs w:=
 aJ.head (stepR_beginRound (b:={(default:Frame)with fn:=fn,kind:= .normal,roundOf:=some l}) rfl (run_beginRound hl hr)) k'
theorem aJ.endRound {X:Cx} {fn fn2:FuncId} {T T2:Array Value} {k:List Item} {cs:List Frame} {w:World} {l:Nat} {r:Loop} {rx2:Rx} {ops:Array Oper} {i:Nat} {rest:List Nat} {o:Oper} (hl:w.heap[l]? =some (.loop r)) (ho:ops[i]? =some o)
  (k':aJ X (au rx2 fn2 ((Act.mk T2 []).put o.dst (.bool true)).tmps (.inRegion ops rest::k)) cs (w.putObj l (.loop {r with state:= .ready,pending:=none}))):
  aJ X (au ⟨some l,[],false⟩ fn T []) (au rx2 fn2 T2 (.inRegion ops (i::rest)::k)::cs) w:=by
 have h:=stepR_round_end (P:=X.P) (b:={(default:Frame)with fn:=fn,kind:= .normal,roundOf:=some l}) (a:=⟨T,[]⟩) (c:=au rx2 fn2 T2 (.inRegion ops (i::rest)::k)) (cs:=cs) rfl rfl (run_endRound none hl)
 rw[show(Option.isNone (none:Option Code))=true from rfl,if_pos rfl,il ho]at h
 exact aJ.head h k'
theorem aJ.sr {X:Cx} {fn fn2:FuncId} {T T2:Array Value} {k2:List Item} {cs:List Frame} {w:World} {l:Nat} {r:Loop} {rx2:Rx} {F:Func} {todo:List Item} (htodo:todo=[]∨ ∃ k,todo= .code .ret::k) (hf:X.P.funcs[fn]? =some F) (hres:F.results= #[])
  (hl:w.heap[l]? =some (.loop r)) (hs:r.state≠ .busy) (hp:r.pending=none)
  (k':aJ X (au rx2 fn2 T2 k2) cs (w.putObj l (.loop {r with state:= .exhausted}))):
  aJ X (au {} fn T todo) (au rx2 fn2 T2 (.inRangeFunc l::k2)::cs) w:=by
 refine aJ.head (er rfl htodo _) ?_
 have hleave:({au {} fn T todo with mode:= .returning}:Frame).leaving X.P w (.returned (.tuple #[])):=by
  refine⟨rfl,rfl,rfl,F,hf, ?_⟩
  unfold results
  rw[hres]
  simp
 refine aJ.head (step_leave_returned hleave) ?_
 have h1:(au rx2 fn2 T2 (.inRangeFunc l::k2)).finish (.tuple #[])=au rx2 fn2 T2 (.endRangeFunc l::k2):=finish_atR_inRangeFunc l _
 rw[h1]
 have h2:=stepR_endRangeFunc (P:=X.P) (b:={(default:Frame)with fn:=fn2,kind:=cond rx2.df .deferred .normal,roundOf:=rx2.rd}) (a:=⟨T2,rx2.ds⟩) (k:=k2) (cs:=cs) (run_endLoop hl hs)
 have e:((r.pending.map Item.code).toList++k2)=k2:=by rw[hp];rfl
 rw[e]at h2
 exact aJ.head h2 k'
theorem aJ.leave {X:Cx} {fn:FuncId} {T:Array Value} {cs:List Frame} {w:World} {D:Nat} {todo:List Item} {v:Value} (htodo:todo=[]∨ ∃ k,todo= .code .ret::k) (hD:w.heap[D]? =some (.deferred (some []))) (hce:X.ce=cs) (hf0:fn=X.f0)
  (hres: ∃ F,X.P.funcs[fn]? =some F∧(results F T).run X.P (w.putObj D (.deferred none))= .ok v (w.putObj D (.deferred none)))
  (hR:X.R (.returned v) (w.putObj D (.deferred none))):aJ X (au ⟨none,[{target:= .collected D,args:= #[]}],false⟩ fn T todo) cs w:=by
 refine aJ.head (er rfl htodo _) ?_
 refine aJ.head (step_collected (d:={target:= .collected D,args:= #[]}) (ds:=[]) (by simp) rfl rfl (run_takeDeferred hD)) ?_
 obtain⟨F,hf,hr⟩:=hres
 refine⟨.returned v,w.putObj D (.deferred none),({({au ⟨none,[{target:= .collected D,args:= #[]}],false⟩ fn T todo with mode:= .returning}:Frame)with defers:=[]++[]}:Frame),hR, ?_,hf0, ?_⟩
 ·rw[hce];exact Steps.refl _ _
 ·exact⟨rfl,rfl,rfl,F,hf,hr⟩
theorem gx {X:Cx} {θ:Th} {hp hp2:List (Option Vw)} {w:World} {cs:List Frame} {fn:FuncId} {l:List (Option SV)} {todo:List Item} {rx:Rx} (hm:Mem X θ hp w) (hlen:hp2.length=hp.length)
  (h: ∀ θ2 T w2,Mem X θ2 hp w2→az hp.length θ θ2→Below w.heap.size w w2→(∀ θ',az hp.length θ2 θ'→eV θ' l T)→aJ X (au rx fn T todo) cs w2):
  Ok (X.C3 θ hp.length w cs) ⟨[⟨fn,l,todo,rx⟩],hp2⟩:=by
 intro θ2 fr ms w2 hh
 obtain⟨T,rfl,hpre,hrest⟩:=hh.pre
 have hms:ms=[]:=by cases hrest θ2 (az.refl _ _);rfl
 subst hms
 obtain⟨h1,h2,h3⟩:=FE hm hh
 exact h θ2 T w2 h1 h3 h2 (fun θ' hs=>(hpre.inv θ' (by rw[←hlen]at hs;exact hs)).2)
def kK:List (Option SV)→List (Option SV)→Prop
 |none::r,_::r'=>kK r r'
 |some v::r,some u::r'=>v=u∧kK r r'
 |[],[]=>True
 |_,_=>False
theorem kK.length: ∀ {a b:List (Option SV)},kK a b→a.length=b.length
 |[],[],_=>rfl
 |none::r,_::r',h=>by simp only[List.length_cons];rw[kK.length (a:=r) (b:=r') h]
 |some v::r,some u::r',h=>by simp only[List.length_cons];rw[kK.length h.2]
 |some v::r,none::r',h=>by cases h
 |[],x::_,h=>by cases h
 |none::_,[],h=>by cases h
 |some _::_,[],h=>by cases h
theorem kK.get: ∀ {a b:List (Option SV)},kK a b→ ∀ {j:Nat} {v:SV},a[j]? =some (some v)→b[j]? =some (some v)
 |[],[],_,j,v,h=>by simp at h
 |none::r,_::r',h,0,v,hv=>by simp at hv
 |none::r,x::r',h,j+1,v,hv=>by simpa using kK.get (a:=r) (b:=r') h (j:=j) (v:=v) (by simpa using hv)
 |some v'::r,some u::r',h,0,v,hv=>by simp at hv;subst hv;rw[←h.1];rfl
 |some v'::r,some u::r',h,j+1,v,hv=>by simpa using kK.get h.2 (j:=j) (v:=v) (by simpa using hv)
 |some v::r,none::r',h,_,_,_=>by cases h
 |[],x::_,h,_,_,_=>by cases h
 |none::_,[],h,_,_,_=>by cases h
 |some _::_,[],h,_,_,_=>by cases h
theorem eV.sub {θ:Th} {l l':List (Option SV)} {T:Array Value} (h:eV θ l T) (hs:kK l' l):eV θ l' T:=⟨by rw[hs.length];exact h.1,fun j v hj=>h.2 j v (hs.get hj)⟩
theorem eV.enter {θ:Th} {args:List SV} {vals:Array Value} {k:Nat} (h:vals.toList=ax θ args):eV θ (args.map some++List.replicate k (some (.af []))) (vals++Array.replicate k undef):=by
 have hla:vals.size=args.length:=by rw[←Array.length_toList,h,aC];simp
 refine⟨by simp[hla],fun j v hj=> ?_⟩
 rw[List.getElem?_append]at hj
 simp only[List.length_map]at hj
 split at hj
 ·rename_i hlt
  rw[List.getElem?_map]at hj
  cases hq:args[j]? with
  |none=>simp[hq]at hj
  |some u=>
   simp[hq]at hj
   subst hj
   rw[Array.getElem?_append_left (by omega),←Array.getElem?_toList,h]
   simpa using cP (θ:=θ) hq
 ·rename_i hge
  rw[List.getElem?_replicate]at hj
  split at hj
  ·cases hj
   rw[Array.getElem?_append_right (by omega),Array.getElem?_replicate,if_pos (by omega)]
   rfl
  ·cases hj
theorem aJ.store {X:Cx} {θ:Th} {hp:List (Option Vw)} {w:World} {rx:Rx} {fn:FuncId} {l:List (Option SV)} {T:Array Value} {cs:List Frame} {ops:Array Oper} {i:Nat} {rest:List Nat} {k:List Item} {o:Oper} {ty:TypeId} {p x:Operand} {t j:Nat} {v:SV} {bx vcs:List SV}
  (hm:Mem X θ hp w) (hT: ∀ θ',az hp.length θ θ'→eV θ' l T) (ho:ops[i]? =some o) (hg:o.guard=none) (hd:o.dst=none) (hop:o.op= .store ty p x) (hp':ev l p=some (.ptr t j)) (hv:ev l x=some v)
  (ht:bL hp t=some (.box true bx)) (hsz:eZ X.P ty=some vcs.length) (hc:cZ v=some vcs) (h1:vcs.all one=true) (hle:j+vcs.length≤bx.length) (hsc:uP 0 vcs=true)
  (k': ∀ w',Mem X θ (hp.set t (some (.box true (bx.take j++vcs++bx.drop (j+vcs.length))))) w'→(∀ (b:Nat) (ob:Obj),w.heap[b]? =some ob→ob.isCells=false→w'.heap[b]? =some ob)→aJ X (au rx fn T (.inRegion ops rest::k)) cs w'):
  aJ X (au rx fn T (.inRegion ops (i::rest)::k)) cs w:=by
 have hz: ∀ θ',ax θ' vcs=ax θ vcs:=fun θ'=>fY (n:=0) (fun t ht=>absurd ht (Nat.not_lt_zero _)) vcs hsc
 have htv:=aN ht
 have hh0:=hm.hp (az.refl _ θ)
 obtain⟨hA,hB⟩:=hh0.vw t _ htv
 obtain⟨b,hb,hbb,c,el,hgc,hcs⟩:=hB rfl
 have hrun:(execOp (Act.mk T []).eval o).run X.P w= .ok .skip (w.setRow b (c.toList.take j++ax θ vcs++c.toList.drop (j+vcs.length)).toArray):=by
  have hs:=hK (P:=X.P) (θ:=θ) (ty:=ty) (o:=j) hgc hsz hc h1 (by omega)
  have hT0:=hT θ (az.refl _ _)
  simp only[execOp,hop,Instr.storeAt,Sem.run_bind,an hT0 hp',an hT0 hv,den,hb,Option.map_some,at_,Nat.zero_add,Instr.sureAddr,Sem.run_pure,Result.andThen_ok,hs]
 have hst:=pt (P:=X.P) (rx:=rx) (fn:=fn) (T:=T) (k:=k) (cs:=cs) (rest:=rest) ho (cF hg) hrun
 have hput:(Act.mk T []).put o.dst undef=⟨T,[]⟩:=by rw[hd];rfl
 rw[hput]at hst
 refine aJ.head hst (k' _ ?_ ?_)
 ·have hbel:Below X.base w (w.setRow b (c.toList.take j++ax θ vcs++c.toList.drop (j+vcs.length)).toArray):=kr hbb _
  have hlen:(hp.set t (some (.box true (bx.take j++vcs++bx.drop (j+vcs.length))))).length=hp.length:=by simp
  refine Mem.mk' (fun θ' hs=> ?_) hm.ae (by rw[hlen];exact hm.len) (hm.sb.trans hbel) (Nat.le_trans hm.sz hbel.size) (hm.gX.below hm.gb hbel) hm.gb
  rw[hlen]at hs
  have hh:=hm.hp hs
  obtain⟨hA',hB'⟩:=hh.vw t _ htv
  have htl:t<hp.length:=(List.getElem?_eq_some_iff.1 htv).1
  have hb':(θ' t).base=some ⟨b,0,none⟩:=by rw[hs t htl];exact hb
  refine hh.write (v':= .box true _) htv rfl rfl hb' rfl (fun k hk=>setRow_other w b k _ hk) ?_
  have hnew:(w.setRow b (c.toList.take j++ax θ vcs++c.toList.drop (j+vcs.length)).toArray).heap[b]? =some (.cells (c.toList.take j++ax θ vcs++c.toList.drop (j+vcs.length)).toArray el (0,0)):=
   setRow_heap w b c _ el (0,0) hgc
  have hcell:bx≠[]→c.toList=ax θ' bx:=fun hn=>by
   obtain⟨a,ha,hl⟩:=hA' hn
   rw[hb']at ha;cases ha
   exact mz hgc hcs hl
  refine⟨fun hn=>⟨_,hb', ?_⟩,fun _=>⟨b,hb',hbb,_,el,hnew,by simp[aC,hcs]⟩⟩
  intro k u hk
  simp only[at_,Nat.zero_add,World.cell?,hnew]
  have hcs':c.toList=ax θ' bx:=by
   grind
  rw[hcs',←hz θ']
  have:=cP (θ:=θ') hk
  simpa[aC,List.map_take,List.map_drop]using this
 ·intro b' ob hb' hnc
  rw[setRow_other w b b' _ (fun e=>by subst e;rw[hgc]at hb';cases hb';cases hnc)]
  exact hb'
theorem xn {o:Oper} {j d:Nat} {want t:Bool} {ops:Array Oper} {T:Array Value} (hg:o.guard=some (j,want)) (hd:(ops[j]?).bind (·.dst)=some d) (hv:T[d]? =some (.bool t)):Region.wanted o (yielded ops T)=(t==want):=by
 unfold Region.wanted yielded
 simp_all
theorem kept {l:Nat} {o:Obj} {w w':World} (h:w.heap[l]? =some o) (hb:Below w.heap.size w w'):w'.heap[l]? =some o:=by
 rw[hb.block _ (Array.getElem?_eq_some_iff.1 h).1];exact h
def Fk (P:Program) (gl:List (Nat×Vw)) (f:FuncId) (T Tp:TypeId) (vs:List Value):Prop:=
 ∀ (w:World) (bt:Nat) (ae:Array Value) (el:TypeId),vr gl w→w.heap[bt]? =some (.cells ae el (0,0))→ae.size=vs.length→
   Calls P f #[.iface T (.agg vs.toArray), .iface Tp (.pointer (some ⟨bt,0,none⟩))] w fun e w'=>e= .returned (.bool true)∧
    ∃ w4,Below w.heap.size w w4∧w'.os=w4.os∧w'.tape=w4.tape∧w'.output=w4.output∧w'.heap.size=w4.heap.size∧(∀ k,k≠bt→w'.heap[k]? =w4.heap[k]?)∧w'.heap[bt]? =some (.cells vs.toArray el (0,0))
def qI:List SV→Option (List Value)
 |[]=>some []
 | .val v::r=>(qI r).map (v:: ·)
 |_=>none
theorem vt: ∀ {cs:List SV} {vs:List Value},qI cs=some vs→cs=vs.map .val
 |[],vs,h=>by simp[qI]at h;subst h;rfl
 | .val v::r,vs,h=>by
   simp only[qI,Option.map_eq_some_iff]at h
   obtain⟨us,hu,rfl⟩:=h
   rw[List.map_cons,vt hu]
 | .ptr .. ::_,_,h| .oE .. ::_,_,h| .qU .. ::_,_,h| .sl .. ::_,_,h| .agg _::_,_,h| .af _::_,_,h| .fn .. ::_,_,h| .dZ .. ::_,_,h| .mp _::_,_,h=>by simp[qI]at h
theorem uc (θ:Th): ∀ vs:List Value,ax θ (vs.map .val)=vs
 |[]=>rfl
 |v::r=>by rw[List.map_cons,ax,uc θ r];rfl
def BV (f:FuncId) (T Tp:TypeId) (P:Program) (gl:List (Nat×Vw)) (c:SC):Option (List Value×SC):=match c with
 |⟨fr::bo,hp⟩=>match fr.todo with
  | .inRegion ops (i::rest)::k=>match ops[i]? with
    |some o=>if o.guard.isNone then match p0 P gl fr.tmps hp [] o.op with
     |some ([],[], .enter g [.dZ t (.agg cs), .dZ tp (.ptr tg 0)])=>match bL hp tg,qI cs with
      |some (.box true os),some vs=>if g==f&&t==T&&tp==Tp&&os.length==vs.length then
        some (vs,⟨{fr with tmps:=dX fr.tmps o.dst (.val (.bool true)),todo:= .inRegion ops rest::k}::bo,hp.set tg (some (.box true cs))⟩)else none
      |_,_=>none
     |_=>none else none
    |none=>none
  |_=>none
 |_=>none
theorem Ok.as {X:Cx} {P:Program} {gl:List (Nat×Vw)} {f:FuncId} {T Tp:TypeId} {vs:List Value} {c c':SC} (hP:X.P=P) (hG:X.gl=gl) (h:BV f T Tp P gl c=some (vs,c')) (hit:Fk P gl f T Tp vs) (k:Ok X c'):Ok X c:=by
 subst hP hG
 obtain⟨frs0,hp⟩:=c
 unfold BV at h
 cases frs0 with
 |nil=>cases h
 |cons fr bo=>
 simp only at h
 split at h
 ·rename_i ops i rest K htd
  split at h
  ·rename_i o ho
   split at h
   ·rename_i hgd
    have hgd':o.guard=none:=Option.isNone_iff_eq_none.1 hgd
    split at h
    ·rename_i g t cs tp tg hop
     split at h
     ·rename_i os vs' hv hvs
      split at h
      ·rename_i hq
       simp only[Bool.and_eq_true,beq_iff_eq]at hq
       obtain⟨⟨⟨rfl,rfl⟩,rfl⟩,hlen⟩:=hq
       obtain⟨rfl,rfl⟩:=Prod.mk.inj (Option.some.inj h)
       have hcs:=vt hvs
       subst hcs
       intro θ m ms w hh
       obtain⟨T0,rfl,hpre,hrest⟩:=hh.pre
       obtain⟨us,hrun,hus⟩:=cS (ds:=[]) hpre hop trivial
       obtain⟨hh0,hT0⟩:=hpre.inv θ (az.refl _ _)
       have htv:=aN hv
       obtain⟨hA,hB⟩:=hh0.vw tg _ htv
       obtain⟨bt,hbt,hbb,c3,el3,hg3,hs3⟩:=hB rfl
       have hus0:=hus θ (az.refl _ _)
       have hus1:us.toArray= #[.iface t (.agg vs'.toArray), .iface tp (.pointer (some ⟨bt,0,none⟩))]:=by
        rw[hus0]
        simp only[ax,den,uc,hbt,Option.map_some,at_,Nat.add_zero]
       rw[hus1]at hrun
       obtain⟨e,w',fr',⟨rfl,w4,hb4,q1,q2,q3,q4,hoth,hnew⟩,hcomes, -,hleave⟩:=hit w bt c3 el3 hh.gX hg3 (by rw[hs3,hlen]) (au fr.rx fr.fn T0 (.inRegion ops (i::rest)::K)::(ms++X.cs))
       have hst:=fv (P:=X.P) (rx:=fr.rx) (fn:=fr.fn) (T:=T0) (k:=K) (cs:=ms++X.cs) (rest:=rest) ho (cF hgd') hrun
       have hlv:=step_leave_returned (c:=au fr.rx fr.fn T0 (.inRegion ops (i::rest)::K)) (cs:=ms++X.cs) hleave
       rw[il ho]at hlv
       have hbel:Below X.base w w':=by
        have hX1:=hb4.mono hpre.sz
        refine⟨?_, ?_, ?_, ?_,fun k hk=> ?_⟩
        ·rw[q1];exact hX1.os
        ·rw[q2];exact hX1.tape
        ·rw[q3];exact hX1.output
        ·rw[q4];exact hX1.size
        ·rw[hoth k (by omega)];exact hX1.block k hk
       rw[htd]
       have htl:tg<hp.length:=(List.getElem?_eq_some_iff.1 htv).1
       refine pU.steps (fr2:=au fr.rx fr.fn ((Act.mk T0 []).put o.dst (.bool true)).tmps (.inRegion ops rest::K)) (frs2:=ms) (w2:=w') (.head hst (Steps.trans hcomes (.one hlv))) ?_
       refine k θ _ ms w' ⟨fun θ' hs=>⟨?_, .cons ⟨_,rfl, ?_⟩ ?_⟩,hh.ae, ?_,hh.sb.trans hbel,Nat.le_trans hh.sz hbel.size,hh.gX.below hh.gb hbel,hh.gb⟩
       ·simp only[List.length_set]at hs
        have h5:=(hpre.inv θ' hs).1.below hb4
        have hbt':(θ' tg).base=some ⟨bt,0,none⟩:=by rw[hs tg htl];exact hbt
        refine h5.write (t:=tg) (v':= .box true (vs'.map .val)) htv rfl rfl hbt' rfl hoth ⟨fun _=>⟨_,hbt',fun k v hk=> ?_⟩,fun _=>⟨bt,hbt',hbb,_,el3,hnew,by simp⟩⟩
        have e1:(ax θ' (vs'.map .val))[k]? =some (den θ' v):=by rw[aC,List.getElem?_map,hk];rfl
        rw[uc]at e1
        simp only[World.cell?,at_,hnew]
        simpa using e1
       ·simp only[List.length_set]at hs
        exact((hpre.inv θ' hs).2).set (v:= .val (.bool true)) (r:= .bool true) (d:=o.dst) (ds:=[]) rfl
       ·simp_all
       ·show X.n0≤(hp.set tg _).length
        rw[List.length_set];exact hh.len
      ·cases h
     ·cases h
    ·cases h
   ·cases h
  ·cases h
 ·cases h
def Mq (f:FuncId) (T Tp:TypeId) (P:Program) (gl:List (Nat×Vw)) (c:SC):SC:=((BV f T Tp P gl c).map (·.2)).getD c
theorem av.as {X:Cx} {P:Program} {gl:List (Nat×Vw)} {fn:FuncId} {hp0 new:List (Option Vw)} {res:SV} {c:SC} (hX:av X P gl fn hp0 res new) {f:FuncId} {T Tp:TypeId} {vs:List Value} (hit:Fk P gl f T Tp vs) (k:Ok X (Mq f T Tp P gl c))
  (h:(BV f T Tp P gl c).map (·.1)=some vs:=by kernel_rfl):Ok X c:=by
 obtain⟨⟨us,c'⟩,h1,h2⟩:=Option.map_eq_some_iff.1 h
 simp only at h2
 subst h2
 unfold Mq at k
 rw[h1]at k
 exact Ok.as hX.P hX.gl h1 hit k
theorem av.to {X:Cx} {P:Program} {gl:List (Nat×Vw)} {fn:FuncId} {hp0 new:List (Option Vw)} {res res':SV} (hX:av X P gl fn hp0 res new) (h:res=res'):av X P gl fn hp0 res' new:=h▸hX
def wZ (P:Program) (gl:List (Nat×Vw)) (c:SC):Option (List Prop×SC):=match c with
 |⟨fr::bo,hp⟩=>match fr.todo with
  | .inRegion ops (i::j::rest)::k=>match ops[i]?,ops[j]? with
    |some o,some o2=>if o.guard.isNone&&o2.guard.isNone&&i !=j then match o.op,o2.op,o.dst with
     | .slice t x (some lo) none none, .call ⟨.builtin .clear,args,ats⟩,some d=>(match args.toList,ats.toList with
      |[.tmp d'],[t']=>if d'==d&&t'==t&&decide (d<fr.tmps.length)then match P.underlying t,ev fr.tmps x,ev fr.tmps lo with
       |some (.slice el),some (.sl tg n),some (.val (.int _ a))=>match bL hp tg,eZ P el,(P.info? el).bind (·.zero)with
        |some (.row true el' m 1 f),some 1,some z=>if z.cells.toList.length==1&&z.oneCell' then
          some ([m=n,0≤a∧a<(n:Int)],⟨{fr with tmps:=dX (fr.tmps.set d none) o2.dst (.af []),todo:= .inRegion ops rest::k}::bo,hp.set tg (some (.row true el' a.toNat 1 f))⟩)else none
        |_,_,_=>none
       |_,_,_=>none else none
      |_,_=>none)
     |_,_,_=>none else none
    |_,_=>none
  |_=>none
 |_=>none
theorem o7 (b:Nat): ∀ (vs:List Value) (o:Nat) (w:World) (c:Array Value) (el:TypeId),w.heap[b]? =some (.cells c el (0,0))→
  ∃ c',(w.setCells b o vs).heap[b]? =some (.cells c' el (0,0))∧c'.size=c.size∧ ∀ i,i<o→c'[i]? =c[i]?
 |[],o,w,c,el,h=>⟨c,h,rfl,fun _ _=>rfl⟩
 |v::r,o,w,c,el,h=>by
  have h1:(w.setCell ⟨b,o,none⟩ v).heap[b]? =some (.cells (c.setIfInBounds o v) el (0,0)):=by simp[World.setCell,Array.getElem?_modify,h]
  obtain⟨c',h2,h3,h4⟩:=o7 b r (o+1) _ _ _ h1
  exact⟨c',h2,by simpa using h3,fun i hi=>by rw[h4 i (by omega),Array.getElem?_setIfInBounds];simp[show o≠i by omega]⟩
theorem oZ (b:Nat): ∀ (vs:List Value) (o:Nat) (w:World),(w.setCells b o vs).os=w.os∧(w.setCells b o vs).tape=w.tape∧(w.setCells b o vs).output=w.output∧(w.setCells b o vs).heap.size=w.heap.size∧ ∀ k,k≠b→(w.setCells b o vs).heap[k]? =w.heap[k]?
 |[],o,w=>⟨rfl,rfl,rfl,rfl,fun _ _=>rfl⟩
 |v::r,o,w=>by
  obtain⟨h1,h2,h3,h4,h5⟩:=oZ b r (o+1) (w.setCell ⟨b,o,none⟩ v)
  refine⟨h1,h2,h3,h4.trans (by simp[World.setCell]),fun k hk=>(h5 k hk).trans ?_⟩
  simp[World.setCell,Array.getElem?_modify,Ne.symm hk]
theorem Ok.LO {X:Cx} {P:Program} {gl:List (Nat×Vw)} {c c':SC} {ps:List Prop} (hP:X.P=P) (hG:X.gl=gl) (h:wZ P gl c=some (ps,c')) (hps:bE ps) (k:Ok X c'):Ok X c:=by
 subst hP hG
 obtain⟨frs0,hp⟩:=c
 unfold wZ at h
 cases frs0 with
 |nil=>cases h
 |cons fr bo=>
 simp only at h
 split at h
 ·rename_i ops i j rest K htd
  split at h
  ·rename_i o o2 ho ho2
   split at h
   ·rename_i hq
    simp only[Bool.and_eq_true,Option.isNone_iff_eq_none,bne_iff_ne,ne_eq]at hq
    obtain⟨⟨hgd,hgd2⟩,hij⟩:=hq
    split at h
    ·rename_i t x lo args ats d hop hop2 hd
     split at h
     ·rename_i d' t' ha1 ha2
      split at h
      ·rename_i hq
       simp only[Bool.and_eq_true,beq_iff_eq,decide_eq_true_eq]at hq
       obtain⟨⟨rfl,rfl⟩,hdl⟩:=hq
       have ea:args= #[Operand.tmp d']:=by apply Array.ext';simpa using ha1
       have et:ats= #[t']:=by apply Array.ext';simpa using ha2
       subst ea et
       split at h
       ·rename_i el tg n ka a hu hx hlo
        split at h
        ·rename_i el' m f z hv hsz hz
         split at h
         ·rename_i hq
          simp only[Bool.and_eq_true,beq_iff_eq]at hq
          obtain⟨hz0,hz1⟩:=hq
          simp only[Option.some.injEq,Prod.mk.injEq]at h
          obtain⟨rfl,rfl⟩:=h
          obtain⟨rfl,⟨h0,h1⟩, -⟩:=hps
          have hzc:z.cells= #[z]:=by cases z<;>first|rfl|(exact absurd hz1 (by simp[Value.oneCell']))
          have hzv: ∀ w,(zeroValue el).run X.P w= .ok z w:=fun w=>by
           obtain⟨ii,e1,e2⟩:=Option.bind_eq_some_iff.1 hz
           simp only[zeroValue,Sem.run_bind,run_program,typeInfo,e1,e2,Sem.run_pure,Result.andThen_ok]
          intro θ mm ms w hh
          obtain⟨T0,rfl,hpre,hrest⟩:=hh.pre
          obtain⟨hh0,hT0⟩:=hpre.inv θ (az.refl _ _)
          have htv:=aN hv
          have htl:tg<hp.length:=(List.getElem?_eq_some_iff.1 htv).1
          obtain⟨g1,g2,⟨g3,g3'⟩,g4,g5,g6⟩:=hh0.vw tg _ htv
          obtain⟨b,c0,hb,hbb,hg,hcs,hmax⟩: ∃ b c,(θ tg).base=some ⟨b,0,none⟩∧X.base≤b∧w.heap[b]? =some (.cells c el' (0,0))∧c.size=(θ tg).cap*1∧(θ tg).cap≤maxLen:=by
           grind
          have hlo': ∀ W:World,(Instr.sliceBound (.int ka a) m .sliceB:Sem Nat).run X.P W= .ok a.toNat W:=fun W=>by
           simp only[Instr.sliceBound,asIntOf,Sem.run_bind,Sem.run_pure,Result.andThen_ok];rw[if_pos ⟨h0,by omega⟩];rfl
          have hr1:(execOp (Act.mk T0 []).eval o).run X.P w= .ok (.value (.slice (some ⟨b,a.toNat,none⟩) (m-a.toNat) ((θ tg).cap-a.toNat))) w:=by
           have hbd:(Instr.sliceBounds true m (θ tg).cap (some (.int ka a)) none none).run X.P w= .ok (a.toNat,m,(θ tg).cap) w:=by
            have h3:=hlo' w
            simp only[Instr.sliceBounds,Sem.run_bind,Sem.run_pure,Result.andThen_ok]
            simp_all [Sem.run_bind]
           simp only[execOp,hop,an hT0 hx,den,Instr.sliceAt,Sem.run_bind,ar hu,Result.andThen_ok,Instr.slice,Option.map_none,Option.map_some,an hT0 hlo]
           simp[hbd,run_sizeOf hsz,hb,Addr.add]
           grind
          have hst1:=eu (P:=X.P) (rx:=fr.rx) (fn:=fr.fn) (k:=K) (cs:=ms++X.cs) (rest:=j::rest) ho (cF hgd) hr1
          rw[hd]at hst1
          generalize hT1:((Act.mk T0 []).put (some d') (.slice (some ⟨b,a.toNat,none⟩) (m-a.toNat) ((θ tg).cap-a.toNat))).tmps=T1 at hst1
          have hT1d:(Act.mk T1 []).eval (.tmp d')= .slice (some ⟨b,a.toNat,none⟩) (m-a.toNat) ((θ tg).cap-a.toNat):=by
           subst hT1
           have:d'<T0.size:=by rw[hT0.1];exact hdl
           simp[Act.eval,Act.put,Array.getD_eq_getD_getElem?,this]
          have hr2:(execOp (Act.mk T1 []).eval o2).run X.P w= .ok (.value (.tuple #[])) (w.setCells b a.toNat (List.replicate (m-a.toNat) z)):=by
           have hc:=Lib.run_clear_slice (P:=X.P) w t' el o2.type z hu hzv hzc hz1 b a.toNat (m-a.toNat) ((θ tg).cap-a.toNat) (by omega)
            (fun q hq=>by
             have:a.toNat+q<c0.size:=by omega
             simp[World.cell?,hg,this])
            (fun q hq=>by simp[World.frozen?,hg])
           simp only[execOp,hop2,resolve,invoke,builtin,Sem.run_bind,Sem.run_pure,Result.andThen_ok,List.map_toArray,List.map_cons,List.map_nil,hT1d]
           simp_all
          have hst2:=eu (P:=X.P) (rx:=fr.rx) (fn:=fr.fn) (T:=T1) (k:=K) (cs:=ms++X.cs) (rest:=rest) ho2 (cF hgd2) hr2
          generalize hw':w.setCells b a.toNat (List.replicate (m-a.toNat) z)=w' at hst2
          obtain⟨r1,r2,r3,r4,r5⟩:=oZ b (List.replicate (m-a.toNat) z) a.toNat w
          obtain⟨c1,s1,s2,s3⟩:=o7 b (List.replicate (m-a.toNat) z) a.toNat w c0 el' hg
          rw[hw']at r1 r2 r3 r4 r5 s1
          have hbel:Below X.base w w':=⟨r1,r2,r3,by rw[r4];exact Nat.le_refl _,fun q hq=>r5 q (by omega)⟩
          rw[htd]
          refine pU.steps (fr2:=au fr.rx fr.fn ((Act.mk T1 []).put o2.dst (.tuple #[])).tmps (.inRegion ops rest::K)) (frs2:=ms) (w2:=w') (.head hst1 (.one hst2)) ?_
          refine k θ _ ms w' ⟨fun θ' hs=>⟨?_, .cons ⟨_,rfl, ?_⟩ ?_⟩,hh.ae, ?_,hh.sb.trans hbel,Nat.le_trans hh.sz hbel.size,hh.gX.below hh.gb hbel,hh.gb⟩
          ·simp only[List.length_set]at hs
           have h5:=(hpre.inv θ' hs).1
           have hsame:θ' tg=θ tg:=hs tg htl
           obtain⟨p1,p2,⟨p3,p3'⟩,p4,p5,p6⟩:=h5.vw tg _ htv
           refine h5.write (t:=tg) (v':= .row true el' a.toNat 1 f) htv rfl rfl (a:=⟨b,0,none⟩) (by rw[hsame];exact hb) rfl r5 ⟨p1,by omega,⟨p3.imp (fun q=>by omega) id,p3'⟩,fun q hq=>p4 q (by omega),fun q hq i hi u v hv=> ?_,fun _=> .inr ⟨b,c1,by rw[hsame];exact hb,hbb,s1,by rw[s2,hsame];exact hcs,by rw[hsame];exact hmax⟩⟩
           have hq2:=p5 q hq i (by omega) u v hv
           rw[hsame,hb]at hq
           cases hq
           have hlen:=(p4 i (by omega)).1
           have hu1:u<1:=by rw[←hlen];exact(List.getElem?_eq_some_iff.1 hv).1
           have hidx:i*1+u<a.toNat:=by omega
           have e2:(w.cell? (at_ ⟨b,0,none⟩ (i*1+u)))=c0[i*1+u]? :=by simp[World.cell?,at_,hg]
           have e3:(w'.cell? (at_ ⟨b,0,none⟩ (i*1+u)))=c1[i*1+u]? :=by simp[World.cell?,at_,s1]
           simp_all
          ·simp only[List.length_set]at hs
           have h6:=(hpre.inv θ' hs).2
           have h7:eV θ' (fr.tmps.set d' none) T1:=by
            subst hT1
            refine⟨by simp[Act.put,h6.1],fun q v hq=> ?_⟩
            rw[List.getElem?_set]at hq
            split at hq
            ·simp_all
            ·rename_i hne
             have:=h6.2 q v hq
             simp[Act.put,Array.getElem?_setIfInBounds,hne,this]
           exact h7.set (v:= .af []) (r:= .tuple #[]) (d:=o2.dst) (ds:=[]) rfl
          ·simp_all
          ·show X.n0≤(hp.set tg _).length
           rw[List.length_set];exact hh.len
         ·cases h
        ·cases h
       ·cases h
      ·cases h
     ·cases h
    ·cases h
   ·cases h
  ·cases h
 ·cases h
def Ku (P:Program) (gl:List (Nat×Vw)) (c:SC):SC:=((wZ P gl c).map (·.2)).getD c
theorem av.LO {X:Cx} {P:Program} {gl:List (Nat×Vw)} {fn:FuncId} {hp0 new:List (Option Vw)} {res:SV} {c:SC} (hX:av X P gl fn hp0 res new) (its:List It) (k:Ok X (Ku P gl c))
  (h:(wZ P gl c).map (fun r=>bE r.1)=some (qD (pL its)):=by kernel_rfl):Ok X c:=by
 obtain⟨⟨ps,c'⟩,h1,h2⟩:=Option.map_eq_some_iff.1 h
 simp only at h2
 unfold Ku at k
 rw[h1]at k
 exact Ok.LO hX.P hX.gl h1 (by rw[h2];exact wF its) k
theorem av.s {X:Cx} {P:Program} {gl:List (Nat×Vw)} {fn:FuncId} {hp0 new:List (Option Vw)} {res:SV} {c:SC} (hX:av X P gl fn hp0 res new) (n:Nat) (its:List It) (k:Ok X (sW P gl n (hL its) c).2.2)
  (h:(fun r:List Prop×List Hint×SC=>(bE r.1,r.2.1)) (sW P gl n (hL its) c)=(qD (pL its),[]):=by kernel_rfl):Ok X c:=by
 have hP:=hX.P
 have hG:=hX.gl
 grind [En,hL,wF]
end Go.Sx
namespace Go.Sx
open Go.RowKit
def Cx.fy (X:Cx) (θ:Th) (n:Nat) (cs:List Frame):Cx:={X with θ0:=θ,n0:=n,cs:=cs}
structure pV (X:Cx) (P:Program) (gl:List (Nat×Vw)) (n:Nat):Prop where
 P:X.P=P
 gl:X.gl=gl
 n0:X.n0=n
theorem av.LA {X:Cx} {P:Program} {gl:List (Nat×Vw)} {f:FuncId} {hp0 new:List (Option Vw)} {res:SV} (h:av X P gl f hp0 res new):pV X P gl hp0.length:=⟨h.P,h.gl,h.n0⟩
theorem pV.fy {X:Cx} {P:Program} {gl:List (Nat×Vw)} {n:Nat} (h:pV X P gl n) (θ:Th) (m:Nat) (cs:List Frame):pV (X.fy θ m cs) P gl m:=⟨h.P,h.gl,rfl⟩
section
variable {X:Cx} {P:Program} {gl:List (Nat×Vw)} {n0:Nat} {c:SC}
theorem pV.go (hX:pV X P gl n0) (its:List It) (k:Ok X (KP P gl (hL its) c)) (h:(fun r:List Prop×List Hint×SC=>(bE r.1,r.2.1)) (sW P gl 5000 (hL its) c)=(qD (pL its),[]):=by kernel_rfl):Ok X c:=
 Ok.goes hX.P hX.gl its k h
theorem pV.h {c':SC} (hX:pV X P gl n0) (n:Nat) (its:List It) (τ:List Mv) (k:Ok X c')
  (h:(match gR P gl n (hL its) c with|some (ps,c1)=>some (bE ps,qo (wK c'.bo) c1.bo,gB c1.hp τ c'.hp,tA (wK c'.bo) c1.bo)|none=>none)=some (qD (pL its),rF τ c'.bo,fQ τ τ c'.hp,true):=by kernel_rfl)
  (h3:(eK τ c'.hp&&apart τ c'.hp&&stay n0 τ&&c'.bo.all (fun fr=>B9 τ.length fr.tmps)&&decide (τ.length=c'.hp.length)&&decide (n0≤τ.length))=true:=by kernel_rfl)
  (hsc:jo τ.length c'.hp:=by repeat' first|exact trivial|exact fun _=>rfl|exact rfl|exact so (by rfl)|refine⟨?_, ?_⟩):Ok X c:=
 Ok.Jj n its τ n0 hX.P hX.gl hX.n0 k h h3 hsc
end
theorem dz.setObj {X:Cx} {θ:Th} {bo:List iD} {hp:List (Option Vw)} {fs:List Frame} {w:World} {t l:Nat} {o:Obj} (o':Obj) (hh:dz X θ ⟨bo,hp⟩ fs w) (ht:bL hp t=some (.obj true l o)):
  dz X θ ⟨bo,hp.set t (some (.obj true l o'))⟩ fs (w.putObj l o')∧w.heap[l]? =some o:=by
 have htv:=aN ht
 obtain⟨b,hb,hbb,rfl,hob⟩:=(hh.rel θ (az.refl _ _)).hp.vw t _ htv
 have hbel:Below X.base w (w.putObj b o'):=gL (hbb rfl) o'
 refine⟨⟨fun θ' hs=> ?_,hh.ae,by simpa using hh.len,hh.sb.trans hbel,Nat.le_trans hh.sz hbel.size,hh.gX.below hh.gb hbel,hh.gb⟩,hob⟩
 have hs':az hp.length θ θ':=by simpa using hs
 have hr:=hh.rel θ' hs'
 have hb':(θ' t).base=some ⟨b,0,none⟩:=by rw[hs' t (List.getElem?_eq_some_iff.1 htv).1];exact hb
 exact⟨hr.hp.write (v':= .obj true b o') htv rfl rfl hb' rfl (fun k hk=>World.putObj_heap_other hk) ⟨b,hb',hbb,rfl,World.putObj_heap_same (Array.getElem?_eq_some_iff.1 hob).1⟩,hr.fr⟩
theorem dz.cs {X:Cx} {θ:Th} {c:SC} {fs:List Frame} {w:World} (hh:dz X θ c fs w) (θ0:Th) (n0:Nat) (cs:List Frame) (h1:az n0 θ0 θ) (h2:n0≤c.hp.length):dz (X.fy θ0 n0 cs) θ c fs w:=
 ⟨fun θ' hs=>⟨(hh.rel θ' hs).hp,(hh.rel θ' hs).fr⟩,h1,h2,hh.sb,hh.sz,hh.gX,hh.gb⟩
theorem dz.one {X:Cx} {θ:Th} {fr:iD} {hp:List (Option Vw)} {m:Frame} {ms:List Frame} {w:World} (hh:dz X θ ⟨[fr],hp⟩ (m::ms) w):
  ms=[]∧ ∃ T,m=au fr.rx fr.fn T fr.todo∧ ∀ θ',az hp.length θ θ'→eV θ' fr.tmps T:=by
 obtain⟨T,rfl,hpre,hrest⟩:=hh.pre
 refine⟨by cases hrest θ (az.refl _ _);rfl,T,rfl,fun θ' hs=>(hpre.inv θ' hs).2⟩
theorem dz.frame {X:Cx} {θ:Th} {bo:List iD} {hp:List (Option Vw)} {fs:List Frame} {w:World} {fr:iD} {T:Array Value} (hh:dz X θ ⟨bo,hp⟩ fs w) (hT: ∀ θ',az hp.length θ θ'→eV θ' fr.tmps T):
  dz X θ ⟨[fr],hp⟩ [au fr.rx fr.fn T fr.todo] w:=
 ⟨fun θ' hs=>⟨(hh.rel θ' hs).hp, .cons ⟨T,rfl,hT θ' hs⟩ .nil⟩,hh.ae,hh.len,hh.sb,hh.sz,hh.gX,hh.gb⟩
theorem pU.toEnd {X:Cx} {fr:Frame} {w:World} (h:pU X fr [] w):aJ X fr X.cs w:=h
theorem aJ.fy {X:Cx} {θ:Th} {n:Nat} {cs cs':List Frame} {fr:Frame} {w:World} (h:aJ (X.fy θ n cs') fr cs w):aJ X fr cs w:=h
theorem aJ.Gf {X:Cx} {θ:Th} {n:Nat} {cs cs':List Frame} {fr:Frame} {w:World} (h:aJ X fr cs w):aJ (X.fy θ n cs') fr cs w:=h
theorem Ok.rangeFunc {X:Cx} {fn:FuncId} {l:List (Option SV)} {k:List Item} {hp:List (Option Vw)} {g:Operand} {ps:Array Tmp} {assign body:Code} {gf:FuncId} {bs:List SV} {F:Func} {b:Code}
  (hg:ev l g=some (.fn (.func gf) [] bs)) (hf:X.P.funcs[gf]? =some F) (hnm:(F.name== "runtime.NumGoroutine")=false) (hb:F.body=some b)
  (k': ∀ θ T D lp,(∀ θ',az hp.length θ θ'→eV θ' l T)→az X.n0 X.θ0 θ→X.n0≤hp.length→
   Ok (X.fy θ hp.length (au ⟨none,[{target:= .collected D,args:= #[]}],false⟩ fn T (.inRangeFunc lp::k)::X.cs))
    ⟨[⟨gf,(SV.val (.func (.yield lp) #[] #[])::bs).map some++List.replicate (F.ntmps-(bs.length+1)) (some (.af [])),[.code b],{}⟩],
      hp++[some (.obj true D (.deferred (some []))),some (.obj true lp (.loop {state:= .ready,pending:=none,fn,tmps:=T,params:=ps,assign,body,defers:=D}))]⟩):
  Ok X ⟨[⟨fn,l, .code (.rangeFunc g ps assign body)::k,{}⟩],hp⟩:=by
 intro θ m ms w hh
 obtain⟨rfl,T,rfl,hT⟩:=hh.one
 have hT0:=hT θ (az.refl _ _)
 have heg:=an (ds:=[]) hT0 hg
 show aJ X (au {} fn T (.code (.rangeFunc g ps assign body)::k)) X.cs w
 refine aJ.rangeFunc (gf:=gf) (lb:=(ax θ bs).toArray) (F:=F) (b:=b) ?_ hf hnm hb ?_
 ·rw[heg];rfl
 ·let lp:=w.heap.size+1
  let r:Loop:={state:= .ready,pending:=none,fn,tmps:=T,params:=ps,assign,body,defers:=w.heap.size}
  let w1:=w.alloc (.deferred (some []))
  let w2:=w1.alloc (.loop r)
  let θ2:Th:=fun t=>if t<hp.length then θ t else if t=hp.length then⟨some ⟨w.heap.size,0,none⟩,0,0⟩else⟨some ⟨w.heap.size+1,0,none⟩,0,0⟩
  have hs2:az hp.length θ θ2:=fun t ht=>by simp[θ2,ht]
  have hb1:Below w.heap.size w w1:=bR w _
  have hsz1:w1.heap.size=w.heap.size+1:=World.size_alloc _ _
  have hb2:Below w1.heap.size w1 w2:=bR w1 _
  have hb3:Below X.base w w2:=(hb1.mono hh.sz).trans (hb2.mono (by have:=hh.sz;omega))
  have key:=k' θ T w.heap.size lp hT hh.ae hh.len
  refine(key θ2 _ [] w2 ⟨fun θ' hs=> ?_,hs2,by show hp.length≤_;rw[List.length_append];omega,hh.sb.trans hb3,Nat.le_trans hh.sz hb3.size,hh.gX.below hh.gb hb3,hh.gb⟩).toEnd.fy
  have hs':az hp.length θ θ':=hs2.trans (hs.mono (by simp))
  have e1:θ' hp.length=⟨some ⟨w.heap.size,0,none⟩,0,0⟩:=by rw[hs hp.length (by show hp.length<_;rw[List.length_append];show hp.length<hp.length+2;omega)];show(if hp.length<hp.length then _ else _)=_;rw[if_neg (Nat.lt_irrefl _),if_pos rfl]
  have e2:θ' (hp.length+1)=⟨some ⟨w.heap.size+1,0,none⟩,0,0⟩:=by rw[hs (hp.length+1) (by show hp.length+1<_;rw[List.length_append];show hp.length+1<hp.length+2;omega)];show(if hp.length+1<hp.length then _ else if hp.length+1=hp.length then _ else _)=_;rw[if_neg (by omega),if_neg (by omega)]
  have h0:=(hh.rel θ' hs').hp
  have hn1:w1.heap[w.heap.size]? =some (.deferred (some [])):=World.alloc_heap_new _ _
  have h1:bm θ' X.base (hp++[some (.obj true w.heap.size (.deferred (some [])))]) w1:=
   h0.push hb1 e1 ⟨w.heap.size,rfl,fun _=>hh.sz,rfl,hn1⟩ (fun a ha=>by cases ha;exact Nat.le_refl _)
  have hn2:w2.heap[w1.heap.size]? =some (.loop r):=World.alloc_heap_new _ _
  have h2:bm θ' X.base ((hp++[some (.obj true w.heap.size (.deferred (some [])))])++[some (.obj true lp (.loop r))]) w2:=
   h1.push hb2 (by simpa using e2) ⟨lp,rfl,fun _=>by have:=hh.sz;omega,rfl,by rw[hsz1]at hn2;exact hn2⟩ (fun a ha=>by cases ha;show w1.heap.size≤w.heap.size+1;omega)
  rw[List.append_assoc]at h2
  refine⟨h2, .cons ⟨_,rfl, ?_⟩ .nil⟩
  have he':=an (ds:=[]) (hT θ' hs') hg
  rw[heg]at he'
  have hbs:ax θ bs=ax θ' bs:=by
   simp only[den,Value.func.injEq]at he'
   simp_all
  have hv:(#[Value.func (.yield lp) #[] #[]]++(ax θ bs).toArray).toList=ax θ' (SV.val (.func (.yield lp) #[] #[])::bs):=by
   simp only[ax,den,Array.toList_append,hbs];rfl
  have hlen:(#[Value.func (.yield lp) #[] #[]]++(ax θ bs).toArray).size=bs.length+1:=by simp[aC,Nat.add_comm]
  rw[hlen]
  exact eV.enter hv
def vA (l:List (Option SV)):List Tmp→List SV→List (Option SV)
 |t::ts,v::vs=>vA (l.set t (some v)) ts vs
 |_,_=>l
theorem xz {θ:Th}: ∀ (ts:List Tmp) (vs:List SV) (l:List (Option SV)) (T:Array Value),eV θ l T→eV θ (vA l ts vs) ((ts.zip (ax θ vs)).foldl (fun tmps (t,a)=>tmps.setIfInBounds t a) T)
 |[],vs,l,T,h=>by cases vs<;>exact h
 |t::ts,[],l,T,h=>h
 |t::ts,v::vs,l,T,h=>by
  simp only[vA,ax,List.zip_cons_cons,List.foldl_cons]
  refine xz ts vs _ _ ⟨by simpa using h.1,fun j u hj=> ?_⟩
  rw[List.getElem?_set]at hj
  split at hj
  ·rename_i e;subst e
   split at hj
   ·rename_i hlt
    simp only[Option.some.injEq]at hj;subst hj
    rw[Array.getElem?_setIfInBounds_self_of_lt (by rw[h.1];exact hlt)]
   ·cases hj
  ·rename_i e
   rw[Array.getElem?_setIfInBounds_ne e]
   exact h.2 j u hj
def yS (ops:Array Oper) (l:List (Option SV)) (hs:List Hint) (i:Nat):Option (Option (List Prop×List Hint×Bool)×Option SV×Option (List SV)×Option Tmp):=match ops[i]? with
 |some o=>match o.op with
  | .call ⟨.value f,args,_⟩=>some (fN ops l hs o,ev l f,xm l args.toList,o.dst)
  |_=>none
 |none=>none
theorem Ok.HI {X:Cx} {gf:FuncId} {l2:List (Option SV)} {ops:Array Oper} {i:Nat} {rest:List Nat} {k2:List Item} {hp:List (Option Vw)} {o:Oper} {f:Operand} {args:Array Operand} {ats:Array TypeId} {tl lp:Nat} {r:Loop} {vs:List SV} {hs:List Hint} {qs:List Prop}
  (ho:ops[i]? =some o) (hgd:fN ops l2 hs o=some (qs,[],true)) (hqs:bE qs) (hop:o.op= .call ⟨.value f,args,ats⟩) (hfv:ev l2 f=some (.val (.func (.yield lp) #[] #[]))) (hav:xm l2 args.toList=some vs)
  (hl:bL hp tl=some (.obj true lp (.loop r))) (hsz:(vs.length==r.params.size)=true) {lr:List (Option SV)} (hT: ∀ θ',az X.n0 X.θ0 θ'→eV θ' lr r.tmps)
  (k: ∀ θ2 T2,(∀ θ',az hp.length θ2 θ'→eV θ' l2 T2)→az X.n0 X.θ0 θ2→X.n0≤hp.length→
   Ok (X.fy θ2 hp.length (au {} gf T2 (.inRegion ops (i::rest)::k2)::X.cs)) ⟨[⟨r.fn,vA lr r.params.toList vs,[.code r.assign, .beginRound, .code r.body],⟨some lp,[],false⟩⟩],hp⟩):
  Ok X ⟨[⟨gf,l2, .inRegion ops (i::rest)::k2,{}⟩],hp⟩:=by
 intro θ m ms w hh
 obtain⟨rfl,T,rfl,hT2⟩:=hh.one
 have hT0:=hT2 θ (az.refl _ _)
 obtain⟨b,hb,hbb,rfl,hob⟩:=(hh.rel θ (az.refl _ _)).hp.vw tl _ (aN hl)
 have hvs:args.map (Act.mk T []).eval=(ax θ vs).toArray:=by
  rw[←fX (ds:=[]) hT0 hav,←Array.toList_map,Array.toArray_toList]
 have hrun:=o8 (P:=X.P) (w:=w) (ρ:=(Act.mk T []).eval) (r:=r) hop (by rw[an hT0 hfv];rfl) hvs hob (by rw[beq_iff_eq]at hsz;simp[aC,hsz])
 have hst:=rp (P:=X.P) (rx:={}) (fn:=gf) (k:=k2) (cs:=X.cs) (rest:=rest) ho (cK hgd hqs hT0) hrun
 show aJ X (au {} gf T (.inRegion ops (i::rest)::k2)) X.cs w
 refine aJ.head hst ?_
 have key:=k θ T hT2 hh.ae hh.len
 refine(key θ _ [] w ((hh.cs θ hp.length (au {} gf T (.inRegion ops (i::rest)::k2)::X.cs) (az.refl _ _) (Nat.le_refl _)).frame (fr:=⟨r.fn,vA lr r.params.toList vs,[.code r.assign, .beginRound, .code r.body],⟨some b,[],false⟩⟩) (T:=_) (fun θ' hs=> ?_))).toEnd.fy
 have hv':ax θ vs=ax θ' vs:=(fX (ds:=[]) hT0 hav).symm.trans (fX (ds:=[]) (hT2 θ' hs) hav)
 have h3:=xz r.params.toList vs lr r.tmps (hT θ' (hh.ae.trans (hs.mono hh.len)))
 rw[←hv']at h3
 have e:(r.params.zip (ax θ vs).toArray).foldl (fun tmps (x:Tmp×Value)=>tmps.setIfInBounds x.1 x.2) r.tmps=(r.params.toList.zip (ax θ vs)).foldl (fun tmps (x:Tmp×Value)=>tmps.setIfInBounds x.1 x.2) r.tmps:=by
  rw[←Array.foldl_toList,Array.toList_zip]
 rw[e]
 exact h3
theorem Ok.yield {X:Cx} {gf:FuncId} {l2:List (Option SV)} {ops:Array Oper} {i:Nat} {rest:List Nat} {k2:List Item} {hp:List (Option Vw)} {tl lp:Nat} {r:Loop} {vs:List SV} (hs:List Hint) {qs:List Prop} {dst:Option Tmp}
  (h:yS ops l2 hs i=some (some (qs,[],true),some (.val (.func (.yield lp) #[] #[])),some vs,dst)) (hqs:bE qs) (hl:bL hp tl=some (.obj true lp (.loop r))) (hsz:(vs.length==r.params.size)=true) {lr:List (Option SV)}
  (hT: ∀ θ',az X.n0 X.θ0 θ'→eV θ' lr r.tmps)
  (k: ∀ θ2 T2,(∀ θ',az hp.length θ2 θ'→eV θ' l2 T2)→az X.n0 X.θ0 θ2→X.n0≤hp.length→
   Ok (X.fy θ2 hp.length (au {} gf T2 (.inRegion ops (i::rest)::k2)::X.cs)) ⟨[⟨r.fn,vA lr r.params.toList vs,[.code r.assign, .beginRound, .code r.body],⟨some lp,[],false⟩⟩],hp⟩):
  Ok X ⟨[⟨gf,l2, .inRegion ops (i::rest)::k2,{}⟩],hp⟩:=by
 unfold yS at h
 split at h
 ·rename_i o ho
  split at h
  ·rename_i f args ats hop
   simp only[Option.some.injEq,Prod.mk.injEq]at h
   obtain⟨h1,h2,h3,h4⟩:=h
   exact Ok.HI ho h1 hqs hop h2 h3 hl hsz hT k
  ·cases h
 ·cases h
theorem Ok.beginRound {X:Cx} {fn:FuncId} {l:List (Option SV)} {k:List Item} {hp:List (Option Vw)} {tl lp:Nat} {r:Loop} (hl:bL hp tl=some (.obj true lp (.loop r))) (hr:r.state= .ready)
  (k':Ok X ⟨[⟨fn,l,k,⟨some lp,[],false⟩⟩],hp.set tl (some (.obj true lp (.loop {r with state:= .busy})))⟩):Ok X ⟨[⟨fn,l, .beginRound::k,⟨some lp,[],false⟩⟩],hp⟩:=by
 intro θ m ms w hh
 obtain⟨rfl,T,rfl,hT⟩:=hh.one
 obtain⟨h2,hob⟩:=hh.setObj (.loop {r with state:= .busy}) hl
 show aJ X (au ⟨some lp,[],false⟩ fn T (.beginRound::k)) X.cs w
 exact aJ.beginRound hob hr (k' θ _ [] _ (h2.frame (fr:=⟨fn,l,k,⟨some lp,[],false⟩⟩) (T:=T) (fun θ' hs=>hT θ' (by simpa using hs)))).toEnd
inductive GB:List Item→Option Code→Prop
 |off:GB [] none
 |ret {k:List Item}:GB (.code .ret::k) (some .ret)
 |exit {k:List Item} {id:Nat}:exitTo id k=none→GB (.code (.exit id)::k) (some (.exit id))
theorem Ok.endRound {X:Cx} {θ2:Th} {T2:Array Value} {gf fn:FuncId} {l l2:List (Option SV)} {hp:List (Option Vw)} {ops:Array Oper} {i n2:Nat} {rest:List Nat} {k k2:List Item} {dst:Option Tmp} {tl lp:Nat} {r:Loop} {j:Option Code} (hj:GB k j)
  (hT2: ∀ θ',az n2 θ2 θ'→eV θ' l2 T2) (hold:az X.n0 X.θ0 θ2) (hn:X.n0≤n2) (hd:ops[i]?.map (·.dst)=some dst) (hl:bL hp tl=some (.obj true lp (.loop r)))
  (k':Ok X ⟨[⟨gf,dX l2 dst (.val (.bool j.isNone)), .inRegion ops rest::k2,{}⟩],hp.set tl (some (.obj true lp (.loop {r with state:=if j.isNone then .ready else .done,pending:=j})))⟩):
  Ok (X.fy θ2 n2 (au {} gf T2 (.inRegion ops (i::rest)::k2)::X.cs)) ⟨[⟨fn,l,k,⟨some lp,[],false⟩⟩],hp⟩:=by
 intro θ m ms w hh
 obtain⟨rfl,T,rfl,hT⟩:=hh.one
 obtain⟨h2,hob⟩:=hh.setObj (.loop {r with state:=if j.isNone then .ready else .done,pending:=j}) hl
 have ho2:az n2 θ2 θ:=hh.ae
 have hn2:n2≤hp.length:=hh.len
 obtain⟨o,ho,rfl⟩:=Option.map_eq_some_iff.1 hd
 have hrun:=run_endRound (P:=X.P) (w:=w) j hob
 have hst:step X.P (lone (au ⟨some lp,[],false⟩ fn T k) (au {} gf T2 (.inRegion ops (i::rest)::k2)::X.cs) w)=
   .next (lone ((au {} gf T2 (.inRegion ops (i::rest)::k2)).finish (.bool j.isNone)) X.cs (w.putObj lp (.loop {r with state:=if j.isNone then .ready else .done,pending:=j}))):=by
  cases hj with
  |off=>exact stepR_round_end (b:={(default:Frame)with fn:=fn,kind:= .normal,roundOf:=some lp}) (a:=⟨T,[]⟩) rfl rfl hrun
  |ret=>exact stepR_round_ret (b:={(default:Frame)with fn:=fn,kind:= .normal,roundOf:=some lp}) (a:=⟨T,[]⟩) rfl rfl hrun
  |exit hx=>exact stepR_round_exit (b:={(default:Frame)with fn:=fn,kind:= .normal,roundOf:=some lp}) (a:=⟨T,[]⟩) rfl rfl hx hrun
 rw[il ho]at hst
 refine aJ.Gf (X:=X) (aJ.head hst ?_)
 have h3:dz X θ ⟨[⟨fn,l,k,⟨some lp,[],false⟩⟩],hp.set tl (some (.obj true lp (.loop {r with state:=if j.isNone then .ready else .done,pending:=j})))⟩ [au ⟨some lp,[],false⟩ fn T k] (w.putObj lp (.loop {r with state:=if j.isNone then .ready else .done,pending:=j})):=
  ⟨fun θ' hs=>⟨(h2.rel θ' hs).hp,(h2.rel θ' hs).fr⟩,hold.trans (ho2.mono hn),by have:=h2.len;simp only[List.length_set]at this⊢;exact Nat.le_trans hn hn2,h2.sb,h2.sz,h2.gX,h2.gb⟩
 exact(k' θ _ [] _ (h3.frame (fr:=⟨gf,dX l2 o.dst (.val (.bool j.isNone)), .inRegion ops rest::k2,{}⟩) (T:=_) (fun θ' hs=>eV.set (hT2 θ' (ho2.trans (az.mono hs (by simpa using hn2)))) rfl))).toEnd
theorem Ok.sr {X:Cx} {θ2:Th} {T2:Array Value} {gf fn:FuncId} {l l2:List (Option SV)} {hp:List (Option Vw)} {n2:Nat} {k k2:List Item} {tl lp:Nat} {r:Loop} {rx2:Rx} {F:Func} (htodo:k=[]∨ ∃ k',k= .code .ret::k') (hf:X.P.funcs[gf]? =some F) (hres:F.results= #[])
  (hT2: ∀ θ',az n2 θ2 θ'→eV θ' l2 T2) (hold:az X.n0 X.θ0 θ2) (hn:X.n0≤n2) (hl:bL hp tl=some (.obj true lp (.loop r))) (hs:r.state≠ .busy)
  (k':Ok X ⟨[⟨fn,l2,(r.pending.map Item.code).toList++k2,rx2⟩],hp.set tl (some (.obj true lp (.loop {r with state:= .exhausted})))⟩):
  Ok (X.fy θ2 n2 (au rx2 fn T2 (.inRangeFunc lp::k2)::X.cs)) ⟨[⟨gf,l,k,{}⟩],hp⟩:=by
 intro θ m ms w hh
 obtain⟨rfl,T,rfl,hT⟩:=hh.one
 obtain⟨h2,hob⟩:=hh.setObj (.loop {r with state:= .exhausted}) hl
 have ho2:az n2 θ2 θ:=hh.ae
 have hn2:n2≤hp.length:=hh.len
 refine aJ.Gf (X:=X) ?_
 refine aJ.head (er rfl htodo _) ?_
 have hleave:({au {} gf T k with mode:= .returning}:Frame).leaving X.P w (.returned (.tuple #[])):=by
  refine⟨rfl,rfl,rfl,F,hf, ?_⟩
  unfold results
  rw[hres]
  simp
 refine aJ.head (step_leave_returned hleave) ?_
 rw[show(au rx2 fn T2 (.inRangeFunc lp::k2)).finish (.tuple #[])=au rx2 fn T2 (.endRangeFunc lp::k2)from finish_atR_inRangeFunc lp _]
 refine aJ.head (stepR_endRangeFunc (P:=X.P) (b:={(default:Frame)with fn:=fn,kind:=cond rx2.df .deferred .normal,roundOf:=rx2.rd}) (a:=⟨T2,rx2.ds⟩) (k:=k2) (cs:=X.cs) (run_endLoop hob hs)) ?_
 have h3:dz X θ ⟨[⟨gf,l,k,{}⟩],hp.set tl (some (.obj true lp (.loop {r with state:= .exhausted})))⟩ [au {} gf T k] (w.putObj lp (.loop {r with state:= .exhausted})):=
  ⟨fun θ' hs=>⟨(h2.rel θ' hs).hp,(h2.rel θ' hs).fr⟩,hold.trans (ho2.mono hn),by have:=h2.len;simp only[List.length_set]at this⊢;exact Nat.le_trans hn hn2,h2.sb,h2.sz,h2.gX,h2.gb⟩
 exact(k' θ _ [] _ (h3.frame (fr:=⟨fn,l2,(r.pending.map Item.code).toList++k2,rx2⟩) (T:=T2) (fun θ' hs=>hT2 θ' (ho2.trans (az.mono hs (by simpa using hn2)))))).toEnd
theorem Ok.leave {X:Cx} {P:Program} {gl:List (Nat×Vw)} {f fn:FuncId} {hp0 new hp:List (Option Vw)} {res:SV} {l:List (Option SV)} {todo:List Item} {tD D:Nat} (hX:av X P gl f hp0 res new) (τ:List Nat) (hD:bL hp tD=some (.obj true D (.deferred (some []))))
  (h:(fun hp':List (Option Vw)=>(yG P gl f ⟨[⟨fn,l,todo,{}⟩],hp'⟩,τ.map (bL hp'),xa τ hp'.length)) (hp.set tD (some (.obj true D (.deferred none))))=
   (fun N=>(some (ew (ik hp0.length τ N) res),new.map (fun x=>x.map (Vw.ew (ik hp0.length τ N))),true)) (hp.set tD (some (.obj true D (.deferred none)))).length):
  Ok X ⟨[⟨fn,l,todo,⟨none,[{target:= .collected D,args:= #[]}],false⟩⟩],hp⟩:=by
 simp only[Prod.mk.injEq,xa,Bool.and_eq_true]at h
 obtain⟨h1,h2,h3,h4⟩:=h
 intro θ m ms w hh
 obtain⟨rfl,T,rfl,hT⟩:=hh.one
 obtain⟨g2,hob⟩:=hh.setObj (.deferred none) hD
 have g3:=g2.frame (fr:=⟨fn,l,todo,{}⟩) (T:=T) (fun θ' hs=>hT θ' (by simpa using hs))
 obtain⟨-,fn',T',todo',v,e,htodo,rfl,hR,hl⟩:=tX hX (c:=⟨[⟨fn,l,todo,{}⟩],hp.set tD (some (.obj true D (.deferred none)))⟩) h1 h2 h3 h4 θ _ _ _ g3
 have e0:todo=todo':=congrArg Frame.todo e
 have e1:fn=fn':=congrArg Frame.fn e
 subst e0 e1
 refine pU.toEnd (X:=X) ?_
 show aJ X (au ⟨none,[{target:= .collected D,args:= #[]}],false⟩ fn T todo) X.cs w
 refine aJ.head (er rfl htodo _) ?_
 refine aJ.head (step_collected (d:={target:= .collected D,args:= #[]}) (ds:=[]) (by simp) rfl rfl (run_takeDeferred hob)) ?_
 refine⟨.returned v,_,({({au ⟨none,[{target:= .collected D,args:= #[]}],false⟩ fn T todo with mode:= .returning}:Frame)with defers:=[]++[]}:Frame),hR, ?_,hX.f0.symm, ?_⟩
 ·rw[hX.ce];exact Steps.refl _ _
 ·rw[hX.P];exact hl
end Go.Sx
namespace Go.Sx
open Go.RowKit
end Go.Sx
namespace Go.Sx
open Go.RowKit
section
variable {P:Program} {k:List Item} {cs:List Frame} {w:World} {ops:Array Oper} {rx:Rx} {fn:FuncId} {T:Array Value} {o:Oper} {i:Nat} {rest:List Nat}
theorem xw {d:Deferred} {w':World} (hrd:rx.rd=none) (ho:ops[i]? =some o) (hw:Region.wanted o (yielded ops T)=true) (hr:(execOp (Act.mk T []).eval o).run P w= .ok (.defer d) w'):
  step P (lone (au rx fn T (.inRegion ops (i::rest)::k)) cs w)= .next (lone (au {rx with ds:=d::rx.ds} fn ((Act.mk T []).put o.dst undef).tmps (.inRegion ops rest::k)) cs w'):=by
 have h:=stepGR_op (P:=P) (b:={(default:Frame)with fn:=fn,kind:=cond rx.df .deferred .normal,roundOf:=rx.rd}) (a:=⟨T,rx.ds⟩) (k:=k) (cs:=cs) (w:=w) (rest:=rest) ho hw
 have he:o.semAt (Frame.roundOf {(default:Frame)with fn:=fn,kind:=cond rx.df .deferred .normal,roundOf:=rx.rd}) (Act.mk T rx.ds).eval=execOp (Act.mk T []).eval o:=by
  show o.semAt rx.rd _=_
  rw[hrd,Oper.semAt_none,wR]
 rw[he]at h
 refine step_lone_go ?_
 have hf:({au rx fn T (.inRegion ops (i::rest)::k)with defers:=d::rx.ds}:Frame).finish undef=au {rx with ds:=d::rx.ds} fn ((Act.mk T []).put o.dst undef).tmps (.inRegion ops rest::k):=
  il (rx:={rx with ds:=d::rx.ds}) ho
 rw[show au rx fn T (.inRegion ops (i::rest)::k)=({(default:Frame)with fn:=fn,kind:=cond rx.df .deferred .normal,roundOf:=rx.rd}:Frame).atR ⟨T,rx.ds⟩ (.inRegion ops (i::rest)::k)from rfl,h,←hf]
 simp[stepG.apply,hr,au,Frame.atR]
end
def Hw (ops:Array Oper) (i:Nat):Option Operand:=
 match ops[i]? with
 |some o=>if o.guard.isNone&&o.dst.isNone then match o.op with
  | .defer c=>match c.callee with
    | .value g=>if c.args.isEmpty then some g else none
    |_=>none
  |_=>none
  else none
 |none=>none
theorem Ok.Gr {X:Cx} {fn:FuncId} {l:List (Option SV)} {ops:Array Oper} {i:Nat} {rest:List Nat} {k:List Item} {hp:List (Option Vw)} {g:Operand} {cf:FuncId} {bs:List SV}
  (ho:Hw ops i=some g) (hg:ev l g=some (.fn (.func cf) [] bs))
  (k': ∀ θ,az X.n0 X.θ0 θ→X.n0≤hp.length→Ok (X.fy θ hp.length X.cs) ⟨[⟨fn,l, .inRegion ops rest::k,⟨none,[{target:= .fn (.func cf) (ax θ bs).toArray,args:= #[]}],false⟩⟩],hp⟩):
  Ok X ⟨[⟨fn,l, .inRegion ops (i::rest)::k,{}⟩],hp⟩:=by
 intro θ m ms w hh
 obtain⟨rfl,T,rfl,hT⟩:=hh.one
 have hT0:=hT θ (az.refl _ _)
 have heg:=an (ds:=[]) hT0 hg
 unfold Hw at ho
 split at ho
 ·rename_i o hoi
  split at ho
  ·rename_i hgd
   simp only[Bool.and_eq_true,Option.isNone_iff_eq_none]at hgd
   obtain⟨h1,h2⟩:=hgd
   split at ho
   ·rename_i c h3
    split at ho
    ·rename_i g' h4
     split at ho
     ·rename_i h5
      cases ho
      have h5':c.args= #[]:=by simpa using h5
      have hrun:(execOp (Act.mk T []).eval o).run X.P w= .ok (.defer {target:= .fn (.func cf) (ax θ bs).toArray,args:= #[]}) w:=by
       unfold execOp
       rw[h3]
       simp only[resolve,h4,h5',heg,den,Deferred.ofValue,ax]
       simp[Sem.run_bind]
      have hst:=xw (P:=X.P) (rx:={}) (fn:=fn) (k:=k) (cs:=X.cs) (rest:=rest) rfl hoi (cF h1) hrun
      rw[h2]at hst
      refine pU.toEnd (X:=X) ?_
      refine aJ.head hst ?_
      have key:=k' θ hh.ae hh.len
      exact(key θ _ [] w ⟨fun θ' hs=>⟨(hh.rel θ' hs).hp, .cons ⟨T,rfl,hT θ' hs⟩ .nil⟩,az.refl _ _,Nat.le_refl _,hh.sb,hh.sz,hh.gX,hh.gb⟩).toEnd.fy
     ·cases ho
    ·cases ho
   ·cases ho
  ·cases ho
 ·cases ho
theorem Ok.oc {X:Cx} {fn:FuncId} {l:List (Option SV)} {todo:List Item} {hp:List (Option Vw)} {cf:FuncId} {bs:List SV} {F:Func} {b:Code} {θ:Th} {n1:Nat} (htodo:todo=[]∨ ∃ k,todo= .code .ret::k)
  (hold:az X.n0 X.θ0 θ) (hX0:X.n0≤n1) (hbs:uP n1 bs=true) (hf:X.P.funcs[cf]? =some F) (hnm:(F.name== "runtime.NumGoroutine")=false) (hb:F.body=some b)
  (k': ∀ θ2 T2,(∀ θ',az hp.length θ2 θ'→eV θ' l T2)→az X.n0 X.θ0 θ2→X.n0≤hp.length→Ok (X.fy θ2 hp.length ({au {} fn T2 todo with mode:= .returning}::X.cs)) ⟨[⟨cf,bs.map some++List.replicate (F.ntmps-bs.length) (some (.af [])),[.code b],⟨none,[],true⟩⟩],hp⟩):
  Ok (X.fy θ n1 X.cs) ⟨[⟨fn,l,todo,⟨none,[{target:= .fn (.func cf) (ax θ bs).toArray,args:= #[]}],false⟩⟩],hp⟩:=by
 intro θ2 m ms w hh
 obtain⟨rfl,T,rfl,hT⟩:=hh.one
 have ho2:az n1 θ θ2:=hh.ae
 have hn2:n1≤hp.length:=hh.len
 refine pU.toEnd (X:=X.fy θ n1 X.cs) (aJ.Gf ?_)
 show aJ X (au ⟨none,[{target:= .fn (.func cf) (ax θ bs).toArray,args:= #[]}],false⟩ fn T todo) X.cs w
 refine aJ.head (er rfl htodo _) ?_
 have hi:(invoke (.fn (.func cf) (ax θ bs).toArray) #[]).run X.P w= .ok (.enter cf (ax θ bs).toArray) w:=by
  have h1: ¬F.name= "runtime.NumGoroutine" :=by simpa using hnm
  simp[invoke,callFunc,hf,h1,hb,Sem.run_bind]
 refine aJ.head (step_defer (fr:={au ⟨none,[{target:= .fn (.func cf) (ax θ bs).toArray,args:= #[]}],false⟩ fn T todo with mode:= .returning}) (d:={target:= .fn (.func cf) (ax θ bs).toArray,args:= #[]}) (ds:=[]) (by simp) rfl rfl hi) ?_
 have he:Frame.enter X.P cf (ax θ bs).toArray .deferred=au ⟨none,[],true⟩ cf ((ax θ bs).toArray++Array.replicate (F.ntmps-(ax θ bs).toArray.size) undef) [.code b]:=by
  simp[Frame.enter,au,Frame.atR,hf,hb]
 rw[he]
 have hold2:az X.n0 X.θ0 θ2:=hold.trans (ho2.mono hX0)
 have key:=k' θ2 T hT hold2 (Nat.le_trans hX0 hn2)
 have hsz:(ax θ bs).toArray.size=bs.length:=by simp[aC]
 rw[hsz]
 refine(key θ2 _ [] w ⟨fun θ' hs=>⟨(hh.rel θ' hs).hp, .cons ⟨_,rfl, ?_⟩ .nil⟩,az.refl _ _,Nat.le_refl _,hh.sb,hh.sz,hh.gX,hh.gb⟩).toEnd.fy
 have hv:(ax θ bs).toArray.toList=ax θ' bs:=by
  show ax θ bs=ax θ' bs
  exact(fY (ho2.trans (az.mono hs hn2)) bs hbs).symm
 exact eV.enter hv
theorem Ok.jl {X:Cx} {P:Program} {gl:List (Nat×Vw)} {f fn:FuncId} {hp0 new hp:List (Option Vw)} {res:SV} {l l3:List (Option SV)} {todo todo3:List Item} {cf:FuncId} {θ2:Th} {T2:Array Value} {n2:Nat} {F3:Func}
  (hX:av X P gl f hp0 res new) (τ:List Nat) (htodo3:todo3=[]∨ ∃ k,todo3= .code .ret::k) (hf:P.funcs[cf]? =some F3) (hres:F3.results= #[])
  (hT2: ∀ θ',az n2 θ2 θ'→eV θ' l T2) (hold:az X.n0 X.θ0 θ2) (hn:X.n0≤n2)
  (h:(yG P gl f ⟨[⟨fn,l,todo,{}⟩],hp⟩,τ.map (bL hp),xa τ hp.length)=(fun N=>(some (ew (ik hp0.length τ N) res),new.map (fun x=>x.map (Vw.ew (ik hp0.length τ N))),true)) hp.length):
  Ok (X.fy θ2 n2 ({au {} fn T2 todo with mode:= .returning}::X.cs)) ⟨[⟨cf,l3,todo3,⟨none,[],true⟩⟩],hp⟩:=by
 simp only[Prod.mk.injEq,xa,Bool.and_eq_true]at h
 obtain⟨h1,h2,h3,h4⟩:=h
 intro θ m ms w hh
 obtain⟨rfl,T,rfl,hT⟩:=hh.one
 have ho2:az n2 θ2 θ:=hh.ae
 have hn2:n2≤hp.length:=hh.len
 have g3:dz X θ ⟨[⟨fn,l,todo,{}⟩],hp⟩ [au {} fn T2 todo] w:=
  ⟨fun θ' hs=>⟨(hh.rel θ' hs).hp, .cons ⟨T2,rfl,hT2 θ' (ho2.trans (az.mono hs hn2))⟩ .nil⟩,hold.trans (ho2.mono hn),Nat.le_trans hn hn2,hh.sb,hh.sz,hh.gX,hh.gb⟩
 obtain⟨-,fn',T',todo',v,e,htodo,rfl,hR,hl⟩:=tX hX (c:=⟨[⟨fn,l,todo,{}⟩],hp⟩) h1 h2 h3 h4 θ _ _ _ g3
 have e0:todo=todo':=congrArg Frame.todo e
 have e1:fn=fn':=congrArg Frame.fn e
 have e2:T2=T':=congrArg Frame.tmps e
 subst e0 e1 e2
 refine pU.toEnd (X:=X.fy θ2 n2 ({au {} fn T2 todo with mode:= .returning}::X.cs)) (aJ.Gf ?_)
 show aJ X (au ⟨none,[],true⟩ cf T todo3) ({au {} fn T2 todo with mode:= .returning}::X.cs) w
 refine aJ.head (er rfl htodo3 _) ?_
 have hgo:Frame.going X.P ({au ⟨none,[],true⟩ cf T todo3 with mode:= .returning}:Frame) w (.returned (.tuple #[])):=by
  refine⟨rfl,rfl,F3,by rw[hX.P];exact hf, ?_⟩
  unfold results
  rw[hres]
  simp
 refine aJ.head (step_going_returned rfl hgo) ?_
 refine⟨.returned v,w,({au {} fn T2 todo with mode:= .returning}:Frame),hR, ?_,hX.f0.symm, ?_⟩
 ·rw[hX.ce];exact Steps.refl _ _
 ·rw[hX.P];exact hl
end Go.Sx
namespace Go.Sx
open Go.RowKit
theorem Ck {τ:List Mv} {rows:List (List SV)} (h:rows.map (dw τ)=rows):(fun i=>dw τ (a_ rows i))=a_ rows:=by
 funext i
 unfold a_
 rw[List.getD_eq_getElem?_getD,←congrArg (fun r:List (List SV)=>r[i]?) h,List.getElem?_map]
 have h2:rows[i]?.map (dw τ)=rows[i]? :=by rw[←List.getElem?_map,h]
 cases hr:rows[i]? with
 |none=>simp[dw]
 |some r=>
  simp_all
theorem C1 {α:Type} {l:List α} {j:Nat} {v:α} (h:l[j]? =some v):l.set j v=l:=by
 apply List.ext_getElem?
 grind
theorem pV.hr {X:Cx} {P:Program} {gl:List (Nat×Vw)} {n0:Nat} {c c':SC} (hX:pV X P gl n0) (n:Nat) (its:List It) (τ:List Mv) (j:Nat) (el:TypeId) (rows:List (List SV)) (k:Ok X c')
  (h:(match gR P gl n (hL its) c with|some (ps,c1)=>some (bE ps,qo (wK c'.bo) c1.bo,gB c1.hp τ c'.hp,tA (wK c'.bo) c1.bo)|none=>none)=some (qD (pL its),rF τ c'.bo,(fQ τ τ c'.hp).set j (some (.row true el rows.length 1 (a_ rows))),true):=by kernel_rfl)
  (hj:(fQ τ τ c'.hp)[j]? =some (some (.row true el rows.length 1 (fun i=>dw τ (a_ rows i)))):=by kernel_rfl) (hp:rows.map (dw τ)=rows:=by kernel_rfl)
  (h3:(eK τ c'.hp&&apart τ c'.hp&&stay n0 τ&&c'.bo.all (fun fr=>B9 τ.length fr.tmps)&&decide (τ.length=c'.hp.length)&&decide (n0≤τ.length))=true:=by kernel_rfl)
  (hsc:jo τ.length c'.hp:=by repeat' first|exact trivial|exact fun _=>rfl|exact rfl|exact so (by rfl)|refine⟨?_, ?_⟩):Ok X c:=
 Ok.Jj n its τ n0 hX.P hX.gl hX.n0 k (by rw[h,C1 (by rw[hj,Ck hp])]) h3 hsc
end Go.Sx
