/-
SX, second part: operations that tell values or lay memory; the machine's steps; regions whose operations may come in any order.
-/
import Derived.Test.YtelidogcomffkaaGreatDoorSA
import Derived.Orders
import Derived.Lib.SliceRun
import Derived.Lib.AppendZeros
import Derived.Laws.Cover3
set_option linter.unusedSimpArgs false
set_option linter.unusedVariables false
namespace Go.Sx
open Go.RowKit
def bt (s:ByteArray) (i:Int):Int:=((s.data.toList.getD i.toNat 0).toNat:Int)
def CI (P:Program) (g:FuncId) (args:List SV) (v:SV):Prop:= ∀ (θ:Th) (W:World),(callFunc g (ax θ args).toArray).run P W= .ok (.value (den θ v)) W
def LW (P:Program) (v:SV) (xt a:TypeId) (ok:Bool) (r:SV):Prop:= ∀ (θ:Th) (W:World),(Instr.typeAssert (den θ v) xt a ok).run P W= .ok (den θ r) W
def LV (P:Program) (t:TypeId) (v:SV) (m:String) (g:FuncId):Prop:= ∀ (θ:Th) (W:World),(method (P.types.size+Made.depth) t (den θ v) m).run P W= .ok (g,den θ v) W
def AK (P:Program) (t:TypeId):Option IntKind:=match (P.info? t).bind (·.zero)with
 |some (.int v n)=>if n==0 then some v else none
 |_=>none
theorem y8 {P:Program} {t:TypeId} {v:IntKind} (h:AK P t=some v):(P.info? t).bind (·.zero)=some (.int v 0):=by
 grind [AK]
def iH (P:Program) (gl:List (Nat×Vw)) (l:List (Option SV)) (hp:List (Option Vw)) (hs:List Hint):Op→Option (List Prop×List Hint×SV)
 | .move x| .assign x=>match ev l x with
   |some v=>some ([],hs,v)
   |none=>none
 | .pick c a b=>match ev l c,hs with
   |some (.val (.bool t)), .b true::hs=>match ev l a with
    |some v=>some ([t=true],hs,v)
    |none=>none
   |some (.val (.bool t)), .b false::hs=>match ev l b with
    |some v=>some ([t=false],hs,v)
    |none=>none
   |_,_=>none
 | .build t parts=>match xm l (parts.toList.map (·.2))with
   |some vs=>match AF P t ((parts.toList.map (·.1)).zip vs)with
    |some cs=>some ([],hs, .agg cs)
    |none=>none
   |none=>none
 | .load t a=>match ev l a,rZ P t,eZ P t with
   |some x,some ag,some (n+1)=>match sC gl hp (n+1) x with
    |some (ps,r)=>match Hm ag r with
     |some v=>some (ps,hs,v)
     |none=>none
    |none=>none
   |_,_,_=>none
 | .nilCheck x=>match ev l x with
   |some (.ptr t j)=>match bL hp t with
    |some (.box _ (c::cs))=>some ([],hs, .ptr t j)
    |_=>none
   |some (.fn (.func f) a b)=>some ([],hs, .fn (.func f) a b)
   |some (.dZ t v)=>some ([],hs, .dZ t v)
   |_=>none
 | .binOp op t x y _=>match ev l x,ev l y with
   |some (.val (.int k a)),some (.val (.int k' b))=>wm hs op k a k' b
   |some (.sl tg n),some (.val (.slice none 0 0))=>match bL hp tg,P.underlying t with
    |some (.row _ _ m _ _),some (.slice _)=>match op with
     | .eql=>some ([m=n,0<n],hs, .val (.bool false))
     | .neq=>some ([m=n,0<n],hs, .val (.bool true))
     |_=>none
    |_,_=>none
   |some (.val (.slice none 0 0)),some (.val (.slice none 0 0))=>match P.underlying t with
    |some (.slice _)=>match op with
     | .eql=>some ([],hs, .val (.bool true))
     | .neq=>some ([],hs, .val (.bool false))
     |_=>none
    |_=>none
   |some a,some b=>match op with
    | .eql=>match FB P t a b with
      |some r=>some ([],hs, .val (.bool r))
      |none=>none
    | .neq=>match FB P t a b with
      |some r=>some ([],hs, .val (.bool (!r)))
      |none=>none
    |_=>none
   |_,_=>none
 | .unOp op _ x=>match op,ev l x with
   | .not,some (.val (.bool b))=>some ([],hs, .val (.bool (!b)))
   | .neg,some (.val (.int k n))=>some ([aj k (0-n)],hs, .val (.int k (0-n)))
   |_,_=>none
 | .convert src dst x=>match P.underlying src,P.underlying dst,ev l x with
   |some (.int _),some (.int k),some (.val (.int _ n))=>match hs with
    | .cw::hs=>some ([],hs, .val (.int k (k.wrap n)))
    |hs=>some ([aj k n],hs, .val (.int k n))
   |some .string,some .string,some (.val (.string s))=>some ([],hs, .val (.string s))
   |_,_,_=>none
 | .makeInterface t x=>match P.underlying t,ev l x with
   |some (.interface _),_=>none
   |some _,some v=>some ([],hs, .dZ t v)
   |_,_=>none
 | .makeFunc fn first captured=>match xm l first.toList,xm l captured.toList with
   |some a,some b=>some ([],hs, .fn fn a b)
   |_,_=>none
 | .fieldAddr s x field=>match P.underlying s with
   |some (.struct fs)=>match fs[field]? with
    |some f=>match eZ P f.type,ev l x with
     |some (n+1),some (.ptr t j)=>match bL hp t with
      |some (.box _ (c::cs))=>some ([],hs, .ptr t (j+f.offset))
      |_=>none
     |some (n+1),some (.oE t i j)=>match bL hp t with
      |some (.row _ _ m _ _)=>some ([0≤i∧i<(m:Int)],hs, .oE t i (j+f.offset))
      |_=>none
     |_,_=>none
    |none=>none
   |_=>none
 | .field t x field=>match P.underlying t,ev l x with
   |some (.struct fs),some (.agg cs)=>match fs[field]? with
    |some f=>match rZ P f.type,eZ P f.type with
     |some ag,some n=>match cut cs f.offset n with
      |some r=>match Hm ag r with
       |some v=>if n==0 then none else some ([],hs,v)
       |none=>none
      |none=>none
     |_,_=>none
    |none=>none
   |_,_=>none
 | .indexAddr t x ix=>match P.underlying t,ev l x,ev l ix with
   |some (.slice el),some (.sl t' n),some (.val (.int _ i))=>match bL hp t',eZ P el with
    |some (.row _ _ m sz _),some s=>if s==sz then some ([0≤i∧i<(m:Int),n=m],hs, .oE t' i 0)else none
    |_,_=>none
   |some (.array len el),some (.ptr t' j),some (.val (.int _ i))=>match bL hp t',eZ P el with
    |some (.box _ (c::cs)),some s=>some ([0≤i∧i<(len:Int)],hs, .ptr t' (j+i.toNat*s))
    |_,_=>none
   |some (.array len el),some (.val (.pointer (some ⟨g,0,none⟩))),some (.val (.int _ i))=>match Ae gl g,eZ P el with
    |some (.row _ _ m sz _),some s=>if s==sz&&m==len then some ([0≤i∧i<(m:Int)],hs, .qU g sz i 0)else none
    |_,_=>none
   |some (.slice el),some (.val (.slice (some ⟨g,0,none⟩) n _)),some (.val (.int _ i))=>match Ae gl g,eZ P el with
    |some (.row _ _ m sz _),some s=>if s==sz&&m==n then some ([0≤i∧i<(m:Int)],hs, .qU g sz i 0)else none
    |_,_=>none
   |_,_,_=>none
 | .lookup t x ix false=>match P.underlying t,ev l x,ev l ix with
   |some (.map kt et),some (.mp tg),some (.val (.int k' a))=>match bL hp tg,P.underlying kt,AK P et with
    |some (.map _ k v f _),some (.int k''),some v'=>if k==k'&&k==k''&&v==v' then some ([],hs, .val (.int v (f a)))else none
    |_,_,_=>none
   |_,_,_=>none
 | .index t x ix=>match P.underlying t,ev l x,ev l ix with
   |some .string,some (.val (.string s)),some (.val (.int _ i))=>some ([0≤i∧i<(s.size:Int)],hs, .val (.int .u8 (bt s i)))
   |some (.array len el),some (.agg cs),some (.val (.int _ i))=>match rZ P el,eZ P el with
    |some ag,some n=>match cut cs (i.toNat*n) n with
     |some r=>match Hm ag r with
      |some v=>some ([0≤i∧i<(len:Int)],hs,v)
      |none=>none
     |none=>none
    |_,_=>none
   |_,_,_=>none
 | .extract x i=>match ev l x with
   |some (.af vs)=>match vs[i]? with
    |some v=>some ([],hs,v)
    |none=>none
   |_=>none
 | .slice t x lo hi none=>match P.underlying t,ev l x with
   |some .string,some (.val (.string s))=>match (match lo with|some a=>ev l a|none=>some (.val (.int .i64 0))),(match hi with|some a=>ev l a|none=>some (.val (.int .i64 (s.size:Int))))with
    |some (.val (.int _ a)),some (.val (.int _ b))=>some ([0≤b∧b≤(s.size:Int),0≤a∧a≤b],hs, .val (.string (s.extract a.toNat b.toNat)))
    |_,_=>none
   |some (.array n el),some (.val (.pointer (some ⟨g,0,none⟩)))=>match lo,hi,eZ P el with
    |none,none,some _=>some ([],hs, .val (.slice (some ⟨g,0,none⟩) n n))
    |_,_,_=>none
   |some (.slice el),some (.val (.slice none 0 0))=>match lo,hi,eZ P el with
    |none,some a,some _=>match ev l a with
     |some (.val (.int _ b))=>some ([b=0],hs, .val (.slice none 0 0))
     |_=>none
    |_,_,_=>none
   |_,_=>none
 | .typeAssert x xt a ok=>match ev l x,hs with
   |some v, .ext r::hs=>some ([LW P v xt a ok r],hs,r)
   |_,_=>none
 | .call ⟨.value f,args,_⟩=>match ev l f,xm l args.toList,hs with
   |some (.fn (.func g) first captured),some as, .ext v::hs=>some ([CI P g (first++as++captured) v],hs,v)
   |_,_,_=>none
 | .call ⟨.builtin .len,args,ats⟩=>match args.toList,ats.toList with
   |[x],[t]=>match P.underlying t,ev l x with
    |some (.slice _),some (.sl _ n)=>some ([],hs, .val (.int .i64 (n:Int)))
    |some (.slice _),some (.val (.slice _ n _))=>some ([],hs, .val (.int .i64 (n:Int)))
    |some .string,some (.val (.string s))=>some ([],hs, .val (.int .i64 (s.size:Int)))
    |_,_=>none
   |_,_=>none
 | .call ⟨.builtin .cap,args,ats⟩=>match args.toList,ats.toList with
   |[x],[t]=>match P.underlying t,ev l x with
    |some (.slice _),some (.val (.slice none 0 0))=>some ([],hs, .val (.int .i64 0))
    |_,_=>none
   |_,_=>none
 | .call ⟨.builtin .min,args,ats⟩=>match args.toList with
   |[x,y]=>match ev l x,ev l y with
    |some (.val (.int k a)),some (.val (.int k' b))=>some ([],hs, .val (.int k (if b<a then b else a)))
    |_,_=>none
   |_=>none
 | .call ⟨.builtin .max,args,ats⟩=>match args.toList with
   |[x,y]=>match ev l x,ev l y with
    |some (.val (.int k a)),some (.val (.int k' b))=>some ([],hs, .val (.int k (if a<b then b else a)))
    |_,_=>none
   |_=>none
 |_=>none
section
variable {P:Program} {gl:List (Nat×Vw)} {base:Nat} {θ:Th} {l:List (Option SV)} {hp:List (Option Vw)} {T:Array Value} {w:World} {ds:List Deferred}
theorem rh (b o k:Nat):(⟨b,o,none⟩:Addr).add k=⟨b,o+k,none⟩:=by unfold Addr.add;split<;>simp_all
theorem uy {t:Nat} {o:Bool} {c:SV} {cs:List SV} (hh:bm θ base hp w) (h:bL hp t=some (.box o (c::cs))): ∃ a,(θ t).base=some a:=by
 obtain⟨h1, -⟩:=hh.vw t _ (aN h)
 grind
theorem qd {t:Nat} {o:Bool} {el n sz:Nat} {f:Nat→List SV} (hh:bm θ base hp w) (h:bL hp t=some (.row o el n sz f)) (hn:0<n): ∃ a,(θ t).base=some a∧a.spot=none∧(θ t).sz=sz:=by
 obtain⟨h1, -,⟨h3,h4⟩, -⟩:=hh.vw t _ (aN h)
 grind
theorem Jn {s:ByteArray} {i:Int} (h0:0≤i) (h1:i<s.size): ∃ b:UInt8,s[i.toNat]? =some b∧(b.toNat:Int)=bt s i:=by
 have hlt:i.toNat<s.size:=by omega
 refine⟨s[i.toNat],by simp[hlt], ?_⟩
 unfold bt
 have:i.toNat<s.data.toList.length:=by simpa using hlt
 rw[List.getD_eq_getElem?_getD,List.getElem?_eq_getElem this]
 rfl
theorem AS {hs hs':List Hint} {o:Oper} {ps:List Prop} {v:SV} (h:iH P gl l hp hs o.op=some (ps,hs',v)) (hps:bE ps) (hg:vr gl w) (hh:bm θ base hp w) (hT:eV θ l T):
  (execOp (Act.mk T ds).eval o).run P w= .ok (.value (den θ v)) w:=by
 cases ho:o.op<;>rw[ho]at h<;>try (simp only[iH,reduceCtorEq]at h;done)
 case move x=>
  simp only[iH]at h
  split at h
  ·rename_i v' hv;cases h;simp[execOp,ho,an hT hv]
  ·cases h
 case assign x=>
  simp only[iH]at h
  split at h
  ·rename_i v' hv;cases h;simp[execOp,ho,an hT hv]
  ·cases h
 case pick c a b=>
  simp only[iH]at h
  split at h
  ·rename_i t hs' hc
   split at h
   ·rename_i v' hv;cases h;simp[execOp,ho,an hT hv,an hT hc,den,asBool,hps.1]
   ·cases h
  ·rename_i t hs' hc
   split at h
   ·rename_i v' hv;cases h;simp[execOp,ho,an hT hv,an hT hc,den,asBool,hps.1]
   ·cases h
  ·cases h
 case build t parts=>
  simp only[iH]at h
  split at h
  ·rename_i vs hv
   split at h
   ·rename_i cs hc
    cases h
    have h1:=wS (ds:=ds) hT hv
    have h2:=AE (P:=P) (w:=w) (θ:=θ) hc
    have hpa:(parts.map fun x=>(x.1,(Act.mk T ds).eval x.2))=((((parts.toList.map (·.1)).zip vs).map fun p=>(p.1,den θ p.2)).toArray):=by
     grind
    simp only[execOp,ho,Sem.run_bind]
    rw[hpa,h2]
    rfl
   ·cases h
  ·cases h
 case load t a=>
  simp only[iH]at h
  split at h
  ·rename_i x ag n hx hag hsz
   split at h
   ·rename_i ps' r hc
    split at h
    ·rename_i v' hm
     cases h
     obtain⟨hl,ad,hd,hsp,hcell⟩:=rR (θ:=θ) (base:=base) hc hps hh hg (Nat.succ_pos _)
     have:=qa (P:=P) (w:=w) (θ:=θ) hag (by rw[hl];exact hsz) hm hsp hcell
     simp only[execOp,ho,Instr.loadAt,an hT hx,hd,Instr.sureAddr,Sem.run_bind,Sem.run_pure,Result.andThen_ok,this]
    ·cases h
   ·cases h
  ·cases h
 case nilCheck x=>
  simp only[iH]at h
  split at h
  ·rename_i t j hx
   split at h
   ·rename_i o' c cs hv
    cases h
    obtain⟨a,ha⟩:=uy hh hv
    simp[execOp,ho,an hT hx,den,ha]
   ·cases h
  ·rename_i f a b hx
   cases h
   simp[execOp,ho,an hT hx,den]
  ·rename_i t v' hx
   cases h
   simp[execOp,ho,an hT hx,den]
  ·cases h
 case binOp op t x y yt=>
  simp only[iH]at h
  split at h
  ·rename_i k a k' b hx hy
   obtain⟨u,rfl,hr⟩:=xu (P:=P) (w:=w) t h hps
   have hg0:(eqGuard op t x y (.int k a) (.int k' b)).run P w= .ok () w:=by cases op<;>simp[eqGuard]
   simp only[execOp,ho,an hT hx,an hT hy,den,Sem.run_bind,hg0,hr,Result.andThen_ok,Sem.run_pure]
  ·rename_i tg n hx hy
   split at h
   ·rename_i o' el m sz f e hv hu
    split at h
    ·cases h
     obtain⟨rfl,hn, -⟩:=hps
     obtain⟨a,ha, -⟩:=qd hh hv hn
     have hg0:(eqGuard .eql t x y (.slice (some a) m (θ tg).cap) (.slice none 0 0)).run P w= .ok () w:=by simp[eqGuard]
     simp only[execOp,ho,an hT hx,an hT hy,den,ha,Sem.run_bind,hg0,Lib.run_eql_slice_nil w t e (some a) m (θ tg).cap 0 0 hu,Result.andThen_ok,Sem.run_pure]
     rfl
    ·cases h
     obtain⟨rfl,hn, -⟩:=hps
     obtain⟨a,ha, -⟩:=qd hh hv hn
     have hg0:(eqGuard .neq t x y (.slice (some a) m (θ tg).cap) (.slice none 0 0)).run P w= .ok () w:=by simp[eqGuard]
     simp only[execOp,ho,an hT hx,an hT hy,den,ha,Sem.run_bind,hg0,run_neq_slice_nil w t e (some a) m (θ tg).cap hu,Result.andThen_ok,Sem.run_pure]
     rfl
    ·cases h
   ·cases h
  ·rename_i hx hy
   split at h
   ·rename_i e hu
    split at h
    ·cases h
     have hg0:(eqGuard .eql t x y (.slice none 0 0) (.slice none 0 0)).run P w= .ok () w:=by simp[eqGuard]
     simp only[execOp,ho,an hT hx,an hT hy,den,Sem.run_bind,hg0,Lib.run_eql_slice_nil w t e none 0 0 0 0 hu,Result.andThen_ok,Sem.run_pure]
     rfl
    ·cases h
     have hg0:(eqGuard .neq t x y (.slice none 0 0) (.slice none 0 0)).run P w= .ok () w:=by simp[eqGuard]
     simp only[execOp,ho,an hT hx,an hT hy,den,Sem.run_bind,hg0,run_neq_slice_nil w t e none 0 0 hu,Result.andThen_ok,Sem.run_pure]
     rfl
    ·cases h
   ·cases h
  ·rename_i a b hne hne2 hne3 hx hy
   split at h
   ·split at h
    ·rename_i r hr
     cases h
     have:=xr (P:=P) (w:=w) (θ:=θ) hr x y false
     simp only[Bool.false_eq_true,if_false]at this
     simp only[execOp,ho,an hT hx,an hT hy]
     rw[Sem.run_bind,this]
     rfl
    ·cases h
   ·split at h
    ·rename_i r hr
     cases h
     have:=xr (P:=P) (w:=w) (θ:=θ) hr x y true
     simp only[if_true]at this
     simp only[execOp,ho,an hT hx,an hT hy]
     rw[Sem.run_bind,this]
     rfl
    ·cases h
   ·cases h
  ·cases h
 case unOp op t x=>
  simp only[iH]at h
  split at h
  ·rename_i b hx;cases h;simp[execOp,ho,an hT hx,den,Op.unary]
  ·rename_i k n hx;cases h;simp only[execOp,ho,an hT hx,den,Op.unary,Op.intArith,Sem.run_bind,Sem.run_pure,Result.andThen_ok,bG hps.1]
  ·cases h
 case convert src dst x=>
  simp only[iH]at h
  split at h
  ·rename_i k0 k k1 n h1 h2 hx
   split at h
   ·cases h;simp only[execOp,ho,an hT hx,den,convert,Sem.run_bind,ar h1,ar h2,Result.andThen_ok,Conv.intToInt,Sem.run_pure]
   ·cases h;simp only[execOp,ho,an hT hx,den,convert,Sem.run_bind,ar h1,ar h2,Result.andThen_ok,Conv.intToInt,Sem.run_pure,bG hps.1]
  ·rename_i s h1 h2 hx;cases h;simp[execOp,ho,an hT hx,den,convert,ar h1,ar h2]
  ·cases h
 case makeInterface t x=>
  simp only[iH]at h
  split at h
  ·cases h
  ·rename_i d v' hne h1 hx
   cases h
   simp only[execOp,ho,an hT hx,den,Instr.makeInterface,Sem.run_bind,ar h1,Result.andThen_ok]
   cases d<;>first|rfl|(exact absurd rfl (hne _))
  ·cases h
 case makeFunc fn a b=>
  simp only[iH]at h
  split at h
  ·rename_i a' b' h1 h2
   cases h
   have e1:=fX (ds:=ds) hT h1
   have e2:=fX (ds:=ds) hT h2
   have e1':a.map (Act.mk T ds).eval=(ax θ a').toArray:=by apply Array.ext';rw[Array.toList_map];exact e1
   have e2':b.map (Act.mk T ds).eval=(ax θ b').toArray:=by apply Array.ext';rw[Array.toList_map];exact e2
   simp only[execOp,ho,Instr.makeFunc,Sem.run_bind,Sem.run_pure,Result.andThen_ok,e1',e2',den]
  ·cases h
 case fieldAddr s x field=>
  simp only[iH]at h
  split at h
  ·rename_i fs hu
   split at h
   ·rename_i f hf
    split at h
    ·rename_i n t j hsz hx
     split at h
     ·rename_i o' c cs hv
      cases h
      obtain⟨a,ha⟩:=uy hh hv
      simp[execOp,ho,an hT hx,den,ha,Instr.fieldAt,ar hu,hf,Instr.sureAddr,fieldPlace,run_sizeOf hsz,rh,at_,Nat.add_assoc]
     ·cases h
    ·rename_i n t i j hsz hx
     split at h
     ·rename_i o' el m sz g hv
      cases h
      obtain⟨a,ha,hsp,hsz'⟩:=qd hh hv (by have:=hps.1;omega)
      simp[execOp,ho,an hT hx,den,ha,Instr.fieldAt,ar hu,hf,Instr.sureAddr,fieldPlace,run_sizeOf hsz,rh,at_,Nat.add_assoc]
     ·cases h
    ·cases h
   ·cases h
  ·cases h
 case field t x field=>
  simp only[iH]at h
  split at h
  ·rename_i fs cs hu hx
   split at h
   ·rename_i f hf
    split at h
    ·rename_i ag n hag hsz
     split at h
     ·rename_i r hc
      split at h
      ·rename_i v' hm
       split at h
       ·cases h
       ·rename_i hn
        cases h
        obtain⟨hl,hr⟩:=jm hc
        simp only[execOp,ho,an hT hx,den,Instr.field,Sem.run_bind,ar hu,Result.andThen_ok,hf,asAgg,Sem.run_pure,part,qb hag]
        unfold Hm at hm
        split at hm
        ·rename_i hag'
         cases hm
         simp only[hag',if_true,Sem.run_bind,run_sizeOf hsz,Result.andThen_ok,Sem.run_pure,den]
         congr 3
         apply Array.ext'
         unfold cut at hc
         split at hc
         ·cases hc
          simp[aC,List.map_take,List.map_drop,Array.toList_extract,List.extract_eq_take_drop]
         ·cases hc
        ·rename_i hag'
         split at hm
         ·rename_i u
          cases hm
          have:=hr 0 _ rfl
          rw[Nat.add_zero]at this
          have:=cP (θ:=θ) this
          simp[hag',this]
         ·cases hm
      ·cases h
     ·cases h
    ·cases h
   ·cases h
  ·cases h
 case indexAddr t x ix=>
  simp only[iH]at h
  split at h
  ·rename_i el t' n k i hu hx hi
   split at h
   ·rename_i o' el' m sz f s hv hsz
    split at h
    ·rename_i hc
     rw[beq_iff_eq]at hc
     subst hc
     cases h
     have hps1:=hps.1
     have hnm:=hps.2.1
     subst hnm
     obtain⟨a,ha,hsp,hsz'⟩:=qd hh hv (by omega)
     have hadd:=xd a hsp (i.toNat*s)
     simp only[execOp,ho,an hT hx,an hT hi,den,ha,Instr.indexAt,asIntOf,Sem.run_bind,Sem.run_pure,Result.andThen_ok,ar hu,hps1,and_self,if_true,run_sizeOf hsz,hadd,hsz',Option.map_some,Nat.add_zero]
    ·cases h
   ·cases h
  ·rename_i len el t' j k i hu hx hi
   split at h
   ·rename_i o' c cs s hv hsz
    cases h
    have hps1:=hps.1
    obtain⟨a,ha⟩:=uy hh hv
    simp[execOp,ho,an hT hx,an hT hi,den,ha,Instr.indexAt,Instr.sureAddr,asIntOf,ar hu,hps1,run_sizeOf hsz,rh,at_,Nat.add_assoc]
   ·cases h
  ·rename_i len el g k i hu hx hi
   split at h
   ·rename_i o' el' m sz f s hv hsz
    split at h
    ·rename_i hc
     simp only[Bool.and_eq_true,beq_iff_eq]at hc
     obtain⟨rfl,rfl⟩:=hc
     cases h
     have hps1:=hps.1
     simp[execOp,ho,an hT hx,an hT hi,den,Instr.indexAt,Instr.sureAddr,asIntOf,ar hu,hps1,run_sizeOf hsz,rh,at_]
    ·cases h
   ·cases h
  ·rename_i el g n _ k i hu hx hi
   split at h
   ·rename_i o' el' m sz f s hv hsz
    split at h
    ·rename_i hc
     simp only[Bool.and_eq_true,beq_iff_eq]at hc
     obtain⟨rfl,rfl⟩:=hc
     cases h
     have hps1:=hps.1
     simp[execOp,ho,an hT hx,an hT hi,den,Instr.indexAt,asIntOf,ar hu,hps1,run_sizeOf hsz,rh,at_]
    ·cases h
   ·cases h
  ·cases h
 case typeAssert x xt a ok=>
  simp only[iH]at h
  split at h
  ·rename_i v' r hs'' hx
   cases h
   simp only[execOp,ho,an hT hx,Sem.run_bind,hps.1 θ w,Result.andThen_ok,Sem.run_pure]
  ·cases h
 case lookup t x ix ok=>
  cases ok with
  |true=>simp only[iH,reduceCtorEq]at h
  |false=>
   simp only[iH]at h
   split at h
   ·rename_i kt et tg k' a hu hx hi
    split at h
    ·rename_i o' k v f st k'' v' hv hk hz
     split at h
     ·rename_i hc
      simp only[Bool.and_eq_true]at hc
      obtain⟨⟨c1,c2⟩,c3⟩:=hc
      obtain rfl:=cJ c1
      obtain rfl:=cJ c2
      obtain rfl:=cJ c3
      cases h
      obtain⟨b,hb, -,es,c,he,hm⟩:=hh.vw tg _ (aN hv)
      have:=zM (P:=P) (w:=w) (a:=a) hu hk (y8 hz) he hm
      simp only[execOp,ho,an hT hx,an hT hi,den,hb,Option.map_some,Sem.run_bind,this,Result.andThen_ok,Sem.run_pure]
     ·cases h
    ·cases h
   ·cases h
 case index t x ix=>
  simp only[iH]at h
  split at h
  ·rename_i s k i hu hx hi
   cases h
   obtain⟨b,h1,h2⟩:=Jn hps.1.1 hps.1.2
   simp[execOp,ho,an hT hx,an hT hi,den,Instr.index,asIntOf,ar hu,hps.1.1,h1,h2]
  ·rename_i len el cs k i hu hx hi
   split at h
   ·rename_i ag n hag hsz
    split at h
    ·rename_i r hc
     split at h
     ·rename_i v' hm
      cases h
      obtain⟨hl,hr⟩:=jm hc
      have hps1:=hps.1
      simp only[execOp,ho,an hT hx,an hT hi,den,Instr.index,asIntOf,Sem.run_bind,ar hu,Result.andThen_ok,Sem.run_pure,hps1,and_self,if_true,run_sizeOf hsz,part,qb hag]
      unfold Hm at hm
      split at hm
      ·rename_i hag'
       cases hm
       simp only[hag',if_true,Sem.run_bind,run_sizeOf hsz,Result.andThen_ok,Sem.run_pure,den]
       congr 3
       apply Array.ext'
       unfold cut at hc
       split at hc
       ·cases hc
        simp[aC,List.map_take,List.map_drop,Array.toList_extract,List.extract_eq_take_drop]
       ·cases hc
      ·rename_i hag'
       split at hm
       ·rename_i u
        cases hm
        have:=hr 0 _ rfl
        rw[Nat.add_zero]at this
        have:=cP (θ:=θ) this
        simp[hag',this]
       ·cases hm
     ·cases h
    ·cases h
   ·cases h
  ·cases h
 case extract x i=>
  simp only[iH]at h
  split at h
  ·rename_i vs hx
   split at h
   ·rename_i v' hv
    cases h
    have:=cP (θ:=θ) hv
    simp[execOp,ho,an hT hx,den,Instr.extract,this]
   ·cases h
  ·cases h
 case slice t x lo hi mx=>
  cases mx with
  |some m=>simp only[iH,reduceCtorEq]at h
  |none=>
   simp only[iH]at h
   split at h
   ·rename_i s hu hx
    split at h
    ·rename_i k a k' b ha hb
     cases h
     obtain⟨⟨b0,b1⟩,⟨a0,a1⟩, -⟩:=hps
     have hlo: ∀ W:World,(match lo.map (Act.mk T ds).eval with
       |some v=>Instr.sliceBound v b.toNat .sliceB
       |none=>pure 0:Sem Nat).run P W= .ok a.toNat W:=fun W=>by
      cases lo with
      |none=>simp at ha;obtain⟨-,rfl⟩:=ha;simp
      |some x'=>simp only[Option.map_some];rw[an hT ha];simp only[den,Instr.sliceBound,asIntOf,Sem.run_bind,Sem.run_pure,Result.andThen_ok];rw[if_pos ⟨a0,by omega⟩];rfl
     have hhi: ∀ W:World,(match hi.map (Act.mk T ds).eval with
       |some v=>Instr.sliceBound v s.size .sliceAlen
       |none=>pure s.size:Sem Nat).run P W= .ok b.toNat W:=fun W=>by
      cases hi with
      |none=>simp at hb;obtain⟨-,rfl⟩:=hb;simp
      |some x'=>simp only[Option.map_some];rw[an hT hb];simp only[den,Instr.sliceBound,asIntOf,Sem.run_bind,Sem.run_pure,Result.andThen_ok];rw[if_pos ⟨b0,b1⟩];rfl
     have hbd:(Instr.sliceBounds false s.size s.size (lo.map (Act.mk T ds).eval) (hi.map (Act.mk T ds).eval) none).run P w= .ok (a.toNat,b.toNat,s.size) w:=by
      unfold Instr.sliceBounds
      have h2:=hhi w
      have h3:=hlo w
      cases hi<;>cases lo<;>simp_all [Sem.run_bind]
     simp only[execOp,ho,an hT hx,den,Instr.sliceAt,Sem.run_bind,ar hu,Result.andThen_ok,Instr.slice,Option.map_none]
     simp[hbd]
    ·cases h
   ·rename_i n el g hu hx
    split at h
    ·rename_i s hsz
     cases h
     simp[execOp,ho,an hT hx,den,Instr.sliceAt,ar hu,Instr.sliceBounds,Instr.sureAddr,run_sizeOf hsz,rh]
    ·cases h
   ·rename_i el hu hx
    split at h
    ·rename_i a' s hsz
     split at h
     ·rename_i k b hb
      cases h
      obtain⟨rfl, -⟩:=hps
      simp[execOp,ho,an hT hx,an hT hb,den,Instr.sliceAt,Instr.slice,ar hu,Instr.sliceBounds,Instr.sliceBound,asIntOf,run_sizeOf hsz,Sem.run_bind,Result.andThen_ok]
     ·cases h
    ·cases h
   ·cases h
 case call c=>
  obtain⟨callee,args,ats⟩:=c
  cases callee with
  |value f=>
   simp only[iH]at h
   split at h
   ·rename_i g first captured as v' hs'' hf has
    cases h
    have e1:args.map (Act.mk T ds).eval=(ax θ as).toArray:=by apply Array.ext';rw[Array.toList_map];exact fX (ds:=ds) hT has
    have h1:=hps.1 θ w
    simp only[execOp,ho,resolve,an hT hf,den,Deferred.ofValue,Sem.run_bind,Sem.run_pure,Result.andThen_ok,invoke,e1]
    rw[←h1]
    congr 2
    simp[aC]
   ·cases h
  |invoke r m=>simp only[iH,reduceCtorEq]at h
  |builtin b=>
   cases b<;>try (simp only[iH,reduceCtorEq]at h;done)
   case len=>
    simp only[iH]at h
    split at h
    ·rename_i x t hargs hats
     have ea:args= #[x]:=by apply Array.ext';simpa using hargs
     have et:ats= #[t]:=by apply Array.ext';simpa using hats
     subst ea et
     split at h
     ·rename_i el t' n hu hx;cases h;simp[execOp,ho,resolve,invoke,builtin,Builtin.len_,ar hu,an hT hx,den,goInt]
     ·rename_i el _ n _ hu hx;cases h;simp[execOp,ho,resolve,invoke,builtin,Builtin.len_,ar hu,an hT hx,den,goInt]
     ·rename_i s hu hx;cases h;simp[execOp,ho,resolve,invoke,builtin,Builtin.len_,ar hu,an hT hx,den,goInt]
     ·cases h
    ·cases h
   case cap=>
    simp only[iH]at h
    split at h
    ·rename_i x t hargs hats
     have ea:args= #[x]:=by apply Array.ext';simpa using hargs
     have et:ats= #[t]:=by apply Array.ext';simpa using hats
     subst ea et
     split at h
     ·rename_i el hu hx;cases h;simp[execOp,ho,resolve,invoke,builtin,Builtin.cap_,ar hu,an hT hx,den,goInt]
     ·cases h
    ·cases h
   case min=>
    simp only[iH]at h
    split at h
    ·rename_i x y hargs
     have ea:args= #[x,y]:=by apply Array.ext';simpa using hargs
     subst ea
     split at h
     ·rename_i k a k' b hx hy;cases h;simp[execOp,ho,resolve,invoke,builtin,Builtin.min_,Builtin.min2,an hT hx,an hT hy,den]
     ·cases h
    ·cases h
   case max=>
    simp only[iH]at h
    split at h
    ·rename_i x y hargs
     have ea:args= #[x,y]:=by apply Array.ext';simpa using hargs
     subst ea
     split at h
     ·rename_i k a k' b hx hy;cases h;simp[execOp,ho,resolve,invoke,builtin,Builtin.max_,Builtin.max2,an hT hx,an hT hy,den]
     ·cases h
    ·cases h
end
end Go.Sx
namespace Go.Sx
open Go.RowKit
def fa (cs:List SV) (j:Nat) (v:List SV):List SV:=cs.take j++v++cs.drop (j+v.length)
def p0 (P:Program) (gl:List (Nat×Vw)) (l:List (Option SV)) (hp:List (Option Vw)) (hs:List Hint) (o:Op):Option (List Prop×List Hint×Ef):=
 match o with
 | .alloc e=>match P.info? e with
   |some i=>match i.zero with
    |some z=>some ([],hs, .val (.ptr hp.length 0) (hp++[some (.box true (z.cells.toList.map .val))]))
    |none=>none
   |none=>none
 | .box _ x=>match ev l x with
   |some v=>match cZ v with
    |some cs=>some ([],hs, .val (.ptr hp.length 0) (hp++[some (.box true cs)]))
    |none=>none
   |none=>none
 | .store t p x=>match ev l p,ev l x,eZ P t with
   |some (.ptr tg j),some v,some n=>match bL hp tg,cZ v with
    |some (.box true cs),some vcs=>if n==vcs.length&&vcs.all one&&decide (j+vcs.length≤cs.length)then
      some ([],hs, .skip (hp.set tg (some (.box true (fa cs j vcs)))))else none
    |_,_=>none
   |some (.oE tg i j),some v,some n=>match bL hp tg,cZ v,hs with
    |some (.row true el m sz f),some vcs, .row f'::hs=>if n==vcs.length&&vcs.all one&&decide (j+vcs.length≤sz)then
      some ([0≤i∧i<(m:Int), ∀ k,k<m→f' k=if k=i.toNat then fa (f k) j vcs else f k],hs, .skip (hp.set tg (some (.row true el m sz f'))))else none
    |_,_,_=>none
   |_,_,_=>none
 | .buildSlice t n parts=>match P.underlying t,xm l (parts.toList.map (·.2))with
   |some (.slice el),some vs=>match P.info? el,rowsOf 0 ((parts.toList.map (·.1)).zip vs)with
    |some i,some rows=>match i.zero,hs with
     |some z, .row f::hs=>if z.cells.size==i.size&&decide (0<i.size)&&decide (n*i.size≤16777216)&&rows.length==n&&rows.all (fun r=>r.length==i.size&&r.all one)then
       some ([∀ k,k<n→f k=rows.getD k []],hs, .val (.sl hp.length n) (hp++[some (.row true el n i.size f)]))else none
     |_,_=>none
    |_,_=>none
   |_,_=>none
 | .makeSlice t x y=>match P.underlying t,ev l x,ev l y with
   |some (.slice el),some (.val (.int k n)),some (.val (.int k' n'))=>match P.info? el with
    |some i=>match i.zero with
     |some z=>if z.cells.size==i.size&&decide (0<i.size)&&(z.cells.toList.map SV.val).all one then
       some ([n=n',0≤n,(i.bytes:Int)*n≤281474976710656,n≤9223372036854775807],hs, .val (.sl hp.length n.toNat) (hp++[some (.row true el n.toNat i.size (fun _=>z.cells.toList.map .val))]))else none
     |none=>none
    |none=>none
   |_,_,_=>none
 | .makeMap t none=>match P.underlying t with
   |some (.map kt et)=>match P.underlying kt,AK P et with
    |some (.int k),some v=>some ([],hs, .val (.mp hp.length) (hp++[some (.map true k v (fun _=>0) [])]))
    |_,_=>none
   |_=>none
 | .mapUpdate t m y x=>match P.underlying t,ev l m,ev l y,ev l x with
   |some (.map kt et),some (.mp tg),some (.val (.int k' a)),some (.val (.int v' x))=>match bL hp tg,P.underlying kt with
    |some (.map true k v f st),some (.int k'')=>if k==k'&&k==k''&&v==v' then some ([],hs, .skip (hp.set tg (some (.map true k v (fun a'=>if a'=a then x else f a') []))))else none
    |_,_=>none
   |_,_,_,_=>none
 | .entryStore t m s x=>match ev l m,ev l s,ev l x with
   |some (.mp tg),some (.val (.int .i64 s)),some (.val (.int v' x))=>match bL hp tg with
    |some (.map true k v f ((s',a)::st))=>if v==v' then some ([s=s'],hs, .skip (hp.set tg (some (.map true k v (fun a'=>if a'=a then x else f a') []))))else none
    |_=>none
   |_,_,_=>none
 | .slice t x lo hi none=>match P.underlying t,ev l x with
   |some (.slice el),some (.sl tg n)=>match hs with
    | .cut::hs=>match bL hp tg,eZ P el,lo,hi with
     |some (.row true el' m sz f),some s,none,some h=>match ev l h with
      |some (.val (.int _ b))=>if s==sz then some ([0≤b∧b≤(m:Int),n=n],hs, .val (.sl hp.length b.toNat) (hp.set tg none++[some (.row true el' b.toNat sz f)]))else none
      |_=>none
     |_,_,_,_=>none
    |hs=>match bL hp tg,eZ P el,(match lo with|some a=>ev l a|none=>some (.val (.int .i64 0))),(match hi with|some a=>ev l a|none=>some (.val (.int .i64 (n:Int))))with
     |some (.row o el' m sz f),some s,some (.val (.int _ a)),some (.val (.int _ b))=>if s==sz then
       some ([m=n,0≤b∧b≤(n:Int),0≤a∧a≤b],hs, .val (.sl hp.length (b.toNat-a.toNat)) (hp.set tg (some (.row false el' m sz f))++[some (.row false el' (b.toNat-a.toNat) sz (fun k=>f (k+a.toNat)))]))else none
     |_,_,_,_=>none
   |_,_=>(iH P gl l hp hs (.slice t x lo hi none)).map fun(ps,hs,v)=>(ps,hs, .val v hp)
 | .call ⟨.value f,args,ats⟩=>match ev l f,xm l args.toList,hs with
   |_,_, .ext _::_=>(iH P gl l hp hs (.call ⟨.value f,args,ats⟩)).map fun(ps,hs,v)=>(ps,hs, .val v hp)
   |some (.fn (.func g) first captured),some as,hs=>match P.funcs[g]? with
    |some fn=>if fn.body.isSome&&fn.name != "runtime.NumGoroutine" then some ([],hs, .enter g (first++as++captured))else none
    |none=>none
   |_,_,_=>none
 | .call ⟨.invoke r m,args,ats⟩=>match ev l r,xm l args.toList,hs with
   |some (.dZ t v),some as, .ext (.fn (.func g) [] [])::hs=>match P.funcs[g]? with
    |some fn=>if fn.body.isSome&&fn.name != "runtime.NumGoroutine" then some ([LV P t v m g],hs, .enter g (v::as))else none
    |none=>none
   |_,_,_=>none
 | .call ⟨.builtin .append,args,ats⟩=>match args.toList,ats.toList with
   |[s,x],[t,t']=>match P.underlying t,ev l s,ev l x,hs with
    |some (.slice el),some sv,some (.sl tx m), .row f''::hs=>match P.info? el,bL hp tx with
     |some i,some (.row _ _ m' sx f')=>match i.zero with
      |some z=>if t==t'&&z.cells.size==i.size&&decide (0<i.size)&&decide (1≤i.bytes)&&sx==i.size then match sv with
       | .sl ts n=>match bL hp ts with
         |some (.row true el' n' ss f)=>if el'==el&&ss==i.size then
           some ([m=m',n=n',(n+m)*i.bytes≤140737488355328, ∀ k,k<n+m→f'' k=if k<n then f k else f' (k-n)],hs, .val (.sl hp.length (n+m)) (hp.set ts none++[some (.row true el (n+m) i.size f'')]))else none
         |_=>none
       | .val (.slice none 0 0)=>some ([m=m',m*i.bytes≤140737488355328, ∀ k,k<m→f'' k=f' k],hs, .val (.sl hp.length m) (hp++[some (.row true el m i.size f'')]))
       |_=>none else none
      |none=>none
     |_,_=>none
    |some (.slice el),some (.val (.slice none 0 0)),some (.val (.int _ n)),hs=>match P.info? el,P.underlying t' with
     |some i,some (.int _)=>match i.zero with
      |some z=>if z.cells.size==i.size&&decide (0<i.size)&&decide (1≤i.bytes)&&(z.cells.toList.map SV.val).all one then
        some ([0<n,n.toNat*i.bytes≤140737488355328],hs, .val (.sl hp.length n.toNat) (hp++[some (.row true el n.toNat i.size (fun _=>z.cells.toList.map .val))]))else none
      |none=>none
     |_,_=>none
    |_,_,_,_=>none
   |_,_=>none
 |o=>(iH P gl l hp hs o).map fun(ps,hs,v)=>(ps,hs, .val v hp)
section
variable {P:Program} {gl:List (Nat×Vw)} {base:Nat} {θ:Th} {l:List (Option SV)} {hp:List (Option Vw)} {T:Array Value} {w:World} {ds:List Deferred}
theorem e7 {hs hs':List Hint} {o:Oper} {ps:List Prop} {e:Ef} {A:Nat→Prop} (hI:gM A P gl base θ l hp T w) (h:(iH P gl l hp hs o.op).map (fun(ps,hs,v)=>(ps,hs,Ef.val v hp))=some (ps,hs',e)) (hps:bE ps):
  ek A P base θ hp w ((execOp (Act.mk T ds).eval o).run P w) e:=by
 cases hx:iH P gl l hp hs o.op with
 |none=>simp[hx]at h
 |some q=>
  obtain⟨ps',hs'',v⟩:=q
  simp only[hx,Option.map_some,Option.some.injEq,Prod.mk.injEq]at h
  obtain⟨rfl, -,rfl⟩:=h
  exact jr.simple hI (fun θ' hh hT=>AS hx hps hI.gX hh hT)
theorem rU {o:Oper} {ty:TypeId} {p x:Operand} {t el m sz j:Nat} {i:Int} {v:SV} {vcs:List SV} {f f':Nat→List SV} {A:Nat→Prop} (hI:gM A P gl base θ l hp T w) (ho:o.op= .store ty p x) (hp':ev l p=some (.oE t i j)) (hv:ev l x=some v)
  (ht:bL hp t=some (.row true el m sz f)) (hsz:eZ P ty=some vcs.length) (hc:cZ v=some vcs) (h1:vcs.all one=true) (hle:j+vcs.length≤sz) (hi:0≤i∧i<(m:Int))
  (hf: ∀ k,k<m→f' k=if k=i.toNat then fa (f k) j vcs else f k):
  ek A P base θ hp w ((execOp (Act.mk T ds).eval o).run P w) (.skip (hp.set t (some (.row true el m sz f')))):=by
 refine jr.sm hI (by simp) (fun θ' hh hT=> ?_)
 have htv:=aN ht
 obtain⟨g1,g2,g3,g4,g5,g6⟩:=hh.vw t _ htv
 rcases g6 rfl with⟨hb0,hc0⟩|⟨b,c,hb,hbb,hg,hcs,hcm⟩
 ·omega
 have hin:(i.toNat+1)*sz≤m*sz:=Nat.mul_le_mul_right _ (by omega)
 have hmc:m*sz≤(θ' t).cap*sz:=Nat.mul_le_mul_right _ g2
 rw[Nat.add_mul]at hin
 have hlen:i.toNat*sz+j+vcs.length≤c.size:=by omega
 refine⟨w.setRow b (c.toList.take (i.toNat*sz+j)++ax θ' vcs++c.toList.drop (i.toNat*sz+j+vcs.length)).toArray, ?_,kr hbb _, ?_⟩
 ·have hs:=hK (P:=P) (θ:=θ') (ty:=ty) (o:=i.toNat*sz+j) hg hsz hc h1 hlen
  simp only[execOp,ho,Instr.storeAt,Sem.run_bind,an hT hp',an hT hv,den,hb,Option.map_some,at_,Nat.zero_add,Instr.sureAddr,Sem.run_pure,Result.andThen_ok,g1,hs]
 ·refine hh.write (v':= .row true el m sz f') htv rfl rfl hb rfl (fun k hk=>setRow_other w b k _ hk) ?_
  have hnew:(w.setRow b (c.toList.take (i.toNat*sz+j)++ax θ' vcs++c.toList.drop (i.toNat*sz+j+vcs.length)).toArray).heap[b]? =some (.cells (c.toList.take (i.toNat*sz+j)++ax θ' vcs++c.toList.drop (i.toNat*sz+j+vcs.length)).toArray el (0,0)):=
   setRow_heap w b c _ el (0,0) hg
  have hpl: ∀ k,k<m→(fa (f k) j vcs).length=sz:=fun k hk=>by
   grind [fa]
  refine⟨g1,g2,g3,fun k hk=> ?_,fun a ha k hk q u hq=> ?_,fun _=> .inr ⟨b,_,hb,hbb,hnew,by simp[aC,hcs];omega,hcm⟩⟩
  ·grind [fa]
  ·rw[hb]at ha;cases ha
   simp only[at_,Nat.zero_add,World.cell?,hnew]
   have hold: ∀ q' u',(f k)[q']? =some u'→c.toList[k*sz+q']? =some (den θ' u'):=fun q' u' h'=>by
    have:=g5 _ hb k hk q' u' h'
    simp only[at_,Nat.zero_add,World.cell?,hg]at this
    simpa using this
   have hfk:=(g4 k hk).1
   rw[hf k hk]at hq
   have hvl:(ax θ' vcs).length=vcs.length:=by simp[aC]
   have hcl:c.toList.length=c.size:=by simp
   split at hq
   ·rename_i hki
    subst hki
    unfold fa at hq
    simp only[Option.isSome_none,Bool.false_eq_true,if_false,List.getElem?_toArray]
    show(c.toList.take (i.toNat*sz+j)++ax θ' vcs++c.toList.drop (i.toNat*sz+j+vcs.length))[i.toNat*sz+q]? =_
    by_cases hq1:q<j
    ·rw[List.append_assoc,List.getElem?_append_left (by simp;omega)]at hq
     rw[List.getElem?_take,if_pos hq1]at hq
     rw[List.append_assoc,List.getElem?_append_left (by simp;omega),List.getElem?_take,if_pos (by omega)]
     exact hold q u hq
    ·by_cases hq2:q<j+vcs.length
     ·rw[List.append_assoc,List.getElem?_append_right (by simp;omega),List.getElem?_append_left (by simp;omega)]at hq
      rw[List.append_assoc,List.getElem?_append_right (by simp;omega),List.getElem?_append_left (by simp[hvl];omega)]
      rw[aC,List.getElem?_map]
      grind
     ·rw[List.getElem?_append_right (by simp;omega),List.getElem?_drop]at hq
      rw[List.getElem?_append_right (by simp[hvl];omega),List.getElem?_drop]
      have:=hold _ u hq
      rw[←this]
      congr 1
      simp[hvl];omega
   ·rename_i hki
    have hql:q<sz:=by have:=(List.getElem?_eq_some_iff.1 hq).1;omega
    have:=hold q u hq
    simp only[Option.isSome_none,Bool.false_eq_true,if_false,List.getElem?_toArray]
    show(c.toList.take (i.toNat*sz+j)++ax θ' vcs++c.toList.drop (i.toNat*sz+j+vcs.length))[k*sz+q]? =_
    rcases Nat.lt_or_gt_of_ne hki with hlt|hgt
    ·have h3:(k+1)*sz≤i.toNat*sz:=Nat.mul_le_mul_right _ hlt
     rw[Nat.add_mul]at h3
     rw[List.append_assoc,List.getElem?_append_left (by simp;omega),List.getElem?_take,if_pos (by omega)]
     exact this
    ·have h3:(i.toNat+1)*sz≤k*sz:=Nat.mul_le_mul_right _ hgt
     rw[Nat.add_mul]at h3
     rw[List.getElem?_append_right (by simp[hvl];omega),List.getElem?_drop,←this]
     grind
theorem bm.alias {v:Vw} {d:Ad} (h:bm θ base hp w) (hd:θ hp.length=d) (hv:aX θ base w d v) (hno:v.own=false)
  (hal:v.live→ ∀ a,d.base=some a→ ∃ t x a',hp[t]? =some (some x)∧x.own=false∧x.live∧(θ t).base=some a'∧a'.block=a.block):bm θ base (hp++[some v]) w:=by
 have key: ∀ t x,(hp++[some v])[t]? =some (some x)→(hp[t]? =some (some x)∧t<hp.length)∨(t=hp.length∧x=v):=by
  grind
 refine⟨fun t x ht=> ?_,fun t t' x x' ht ht' hne ho hl a a' ha ha'=> ?_⟩
 ·rcases key t x ht with⟨h1, -⟩|⟨rfl,rfl⟩
  ·exact h.vw t x h1
  ·rw[hd];exact hv
 ·rcases key t x ht with⟨h1,h2⟩|⟨rfl,rfl⟩<;>rcases key t' x' ht' with⟨h3,h4⟩|⟨rfl,rfl⟩
  ·exact h.ne t t' x x' h1 h3 hne ho hl a a' ha ha'
  ·rw[hd]at ha'
   rcases hl with hl|hl
   ·rw[hno]at hl;cases hl
   ·obtain⟨s,y,c,q1,q2,q3,q4,q5⟩:=hal hl a' ha'
    rw[←q5]
    exact h.ne t s x y h1 q1 (fun e=>by subst e;rw[h1]at q1;cases q1;rw[q2]at ho;cases ho) ho (.inr q3) a c ha q4
  all_goals simp_all
theorem sY {o:Oper} {t el el' n sz tg:Nat} {x:Operand} {lo hi:Option Operand} {ow:Bool} {f:Nat→List SV} {k k':IntKind} {a b:Int} {A:Nat→Prop} (hI:gM A P gl base θ l hp T w) (ho:o.op= .slice t x lo hi none) (hu:P.underlying t=some (.slice el)) (hx:ev l x=some (.sl tg n))
  (ht:bL hp tg=some (.row ow el' n sz f)) (hsz:eZ P el=some sz) (ha:(match lo with|some a=>ev l a|none=>some (SV.val (.int .i64 0)))=some (.val (.int k a))) (hb:(match hi with|some a=>ev l a|none=>some (SV.val (.int .i64 (n:Int))))=some (.val (.int k' b)))
  (hbn:0≤b∧b≤(n:Int)) (hab:0≤a∧a≤b):
  ∃ r d,(execOp (Act.mk T ds).eval o).run P w= .ok (.value r) w∧ ∀ θ',bX A θ θ'→θ' hp.length=d→r=den θ' (.sl hp.length (b.toNat-a.toNat))∧bm θ' base hp w∧θ' tg=θ tg∧
    aX θ' base w (θ' hp.length) (.row false el' (b.toNat-a.toNat) sz (fun k=>f (k+a.toNat)))∧(0<b.toNat-a.toNat→ ∀ c,(θ' hp.length).base=some c→ ∃ c0,(θ tg).base=some c0∧c0.block=c.block):=by
 have htv:=aN ht
 have hrun: ∀ θ',bm θ' base hp w→eV θ' l T→(execOp (Act.mk T ds).eval o).run P w= .ok (.value (.slice (if(θ' tg).cap=a.toNat then(θ' tg).base else(θ' tg).base.map (·.add (a.toNat*sz))) (b.toNat-a.toNat) ((θ' tg).cap-a.toNat))) w:=fun θ' hh hT=>by
  obtain⟨g1,g2,g3,g4,g5,g6⟩:=hh.vw tg _ htv
  have hlo: ∀ W:World,(match lo.map (Act.mk T ds).eval with
    |some v=>Instr.sliceBound v b.toNat .sliceB
    |none=>pure 0:Sem Nat).run P W= .ok a.toNat W:=fun W=>by
   cases lo with
   |none=>simp at ha;obtain⟨-,rfl⟩:=ha;simp
   |some x'=>simp only[Option.map_some];rw[an hT ha];simp only[den,Instr.sliceBound,asIntOf,Sem.run_bind,Sem.run_pure,Result.andThen_ok];rw[if_pos ⟨hab.1,by omega⟩];rfl
  have hhi: ∀ W:World,(match hi.map (Act.mk T ds).eval with
    |some v=>Instr.sliceBound v (θ' tg).cap .sliceAcap
    |none=>pure n:Sem Nat).run P W= .ok b.toNat W:=fun W=>by
   cases hi with
   |none=>simp at hb;obtain⟨-,rfl⟩:=hb;simp
   |some x'=>simp only[Option.map_some];rw[an hT hb];simp only[den,Instr.sliceBound,asIntOf,Sem.run_bind,Sem.run_pure,Result.andThen_ok];rw[if_pos ⟨hbn.1,by omega⟩];rfl
  have hbd:(Instr.sliceBounds true n (θ' tg).cap (lo.map (Act.mk T ds).eval) (hi.map (Act.mk T ds).eval) none).run P w= .ok (a.toNat,b.toNat,(θ' tg).cap) w:=by
   unfold Instr.sliceBounds
   have h2:=hhi w
   have h3:=hlo w
   cases hi<;>cases lo<;>simp_all [Sem.run_bind]
  simp only[execOp,ho,an hT hx,den,Instr.sliceAt,Sem.run_bind,ar hu,Result.andThen_ok,Instr.slice,Option.map_none]
  simp[hbd,run_sizeOf hsz]
 obtain⟨hh0,hT0⟩:=hI.inv θ (bX.refl _ _)
 refine⟨_,⟨if(θ tg).cap=a.toNat then(θ tg).base else(θ tg).base.map (·.add (a.toNat*sz)),(θ tg).cap-a.toNat,sz⟩,hrun θ hh0 hT0,fun θ' hs hd=> ?_⟩
 have htl:tg<hp.length:=(List.getElem?_eq_some_iff.1 htv).1
 have hsame:θ' tg=θ tg:=hs tg (hI.kn tg _ htv)
 obtain⟨hh,hT⟩:=hI.inv θ' hs
 obtain⟨g1,g2,⟨g3,g3'⟩,g4,g5,g6⟩:=hh.vw tg _ htv
 rw[hsame]at g1 g2 g3 g3' g5
 have hnew':aX θ' base w (θ' hp.length) (.row false el' (b.toNat-a.toNat) sz (fun k=>f (k+a.toNat))):=by
  rw[hd]
  have hbase: ∀ c,(if(θ tg).cap=a.toNat then(θ tg).base else(θ tg).base.map (·.add (a.toNat*sz)))=some c→c.spot=none∧(0<b.toNat-a.toNat→ ∃ c0,(θ tg).base=some c0∧c=at_ c0 (a.toNat*sz)):=fun c hc=>by
   split at hc
   ·grind
   ·cases hcb:(θ tg).base with
    |none=>simp[hcb]at hc
    |some c0=>
     simp[hcb]at hc
     rw[xd c0 (g3' c0 hcb)]at hc
     subst hc
     exact⟨rfl,fun _=>⟨c0,rfl,rfl⟩⟩
  refine⟨rfl,by show b.toNat-a.toNat≤(θ tg).cap-a.toNat;omega,⟨?_,fun c hc=>(hbase c hc).1⟩,fun i hi=>g4 _ (by omega),fun c hc i hi=> ?_,fun h=>by cases h⟩
  ·grind
  ·obtain⟨c0,hc0,rfl⟩:=(hbase c hc).2 (by omega)
   intro q u hq
   have:=g5 c0 hc0 (i+a.toNat) (by omega) q u hq
   rw[←this]
   unfold at_
   grind
 refine⟨by simp[den,hd],hh,hsame,hnew',fun hpos c hc=> ?_⟩
 rcases g3 with g3|⟨c0,hc0⟩
 ·omega
 ·rw[hd]at hc
  simp only[hc0]at hc
  refine⟨c0,hc0, ?_⟩
  split at hc
  ·cases hc;rfl
  ·simp only[Option.map_some,Option.some.injEq]at hc
   rw[xd c0 (g3' c0 hc0)]at hc
   subst hc
   rfl
theorem xx {o:Oper} {t el el' n sz tg:Nat} {x:Operand} {lo hi:Option Operand} {ow:Bool} {f:Nat→List SV} {k k':IntKind} {a b:Int} {A:Nat→Prop} (hI:gM A P gl base θ l hp T w) (ho:o.op= .slice t x lo hi none) (hu:P.underlying t=some (.slice el)) (hx:ev l x=some (.sl tg n))
  (ht:bL hp tg=some (.row ow el' n sz f)) (hsz:eZ P el=some sz) (ha:(match lo with|some a=>ev l a|none=>some (SV.val (.int .i64 0)))=some (.val (.int k a))) (hb:(match hi with|some a=>ev l a|none=>some (SV.val (.int .i64 (n:Int))))=some (.val (.int k' b)))
  (hbn:0≤b∧b≤(n:Int)) (hab:0≤a∧a≤b):
  ek A P base θ hp w ((execOp (Act.mk T ds).eval o).run P w) (.val (.sl hp.length (b.toNat-a.toNat)) (hp.set tg (some (.row false el' n sz f))++[some (.row false el' (b.toNat-a.toNat) sz (fun k=>f (k+a.toNat)))])):=by
 have htv:=aN ht
 obtain⟨r,d,hr,hfin⟩:=sY (ds:=ds) hI ho hu hx ht hsz ha hb hbn hab
 refine⟨r,w,fun _=>d,hr,Below.refl _ _,by simp,fun θ' hs hnew=> ?_⟩
 have hd:=hnew 0 (by simp)
 simp only[Nat.add_zero]at hd
 obtain⟨e1,hh,hsame,hnew',hblk⟩:=hfin θ' hs hd
 refine⟨?_,e1⟩
 have htl:tg<hp.length:=(List.getElem?_eq_some_iff.1 htv).1
 obtain⟨g1,g2,⟨g3,g3'⟩,g4,g5,g6⟩:=hh.vw tg _ htv
 rw[hsame]at g1 g2 g3 g3' g5
 have hh':bm θ' base (hp.set tg (some (.row false el' n sz f))) w:=by
  have key: ∀ s x,(hp.set tg (some (Vw.row false el' n sz f)))[s]? =some (some x)→(s≠tg∧hp[s]? =some (some x))∨(s=tg∧x= .row false el' n sz f):=by
   grind
  refine⟨fun s x hs=> ?_,fun s s' x x' hs hs' hne hox hl c c' hc hc'=> ?_⟩
  ·rcases key s x hs with⟨h1,h2⟩|⟨rfl,rfl⟩
   ·exact hh.vw s x h2
   ·rw[←hsame]at g1 g2 g3 g3' g5
    exact⟨g1,g2,⟨g3,g3'⟩,g4,g5,fun h=>by cases h⟩
  ·rcases key s x hs with⟨h1,h2⟩|⟨rfl,rfl⟩<;>rcases key s' x' hs' with⟨h3,h4⟩|⟨rfl,rfl⟩
   ·exact hh.ne s s' x x' h2 h4 hne hox hl c c' hc hc'
   ·exact hh.ne s s' x _ h2 htv hne hox (hl.imp (fun h=>by cases h) id) c c' hc hc'
   ·cases hox
   ·cases hox
 have hlen:(hp.set tg (some (Vw.row false el' n sz f))).length=hp.length:=by simp
 refine hh'.alias (d:=θ' hp.length) (by rw[hlen]) hnew' rfl (fun hlive c hc=> ?_)
 obtain⟨c0,q1,q2⟩:=hblk hlive.1 c hc
 exact⟨tg, .row false el' n sz f,c0,by simp[htl],rfl,⟨by have:=hlive.1;omega,hlive.2⟩,by rw[hsame];exact q1,q2⟩
theorem CB {o:Oper} {t el el' n m sz tg:Nat} {x h:Operand} {f:Nat→List SV} {k':IntKind} {b:Int} {A:Nat→Prop} (hI:gM A P gl base θ l hp T w) (ho:o.op= .slice t x none (some h) none) (hu:P.underlying t=some (.slice el)) (hx:ev l x=some (.sl tg n))
  (ht:bL hp tg=some (.row true el' m sz f)) (hsz:eZ P el=some sz) (hb:ev l h=some (.val (.int k' b))) (hbm:0≤b∧b≤(m:Int)):
  ek A P base θ hp w ((execOp (Act.mk T ds).eval o).run P w) (.val (.sl hp.length b.toNat) (hp.set tg none++[some (.row true el' b.toNat sz f)])):=by
 have htv:=aN ht
 have htl:tg<hp.length:=(List.getElem?_eq_some_iff.1 htv).1
 obtain⟨hh0,hT0⟩:=hI.inv θ (bX.refl _ _)
 have hrun:(execOp (Act.mk T ds).eval o).run P w= .ok (.value (.slice (θ tg).base b.toNat (θ tg).cap)) w:=by
  obtain⟨g1,g2,⟨g3,g3'⟩,g4,g5,g6⟩:=hh0.vw tg _ htv
  have hcap:b.toNat≤(θ tg).cap:=by omega
  have hbd:(Instr.sliceBounds true n (θ tg).cap none (some (.int k' b)) none).run P w= .ok (0,b.toNat,(θ tg).cap) w:=by
   have:b≤((θ tg).cap:Int):=by omega
   simp only[Instr.sliceBounds,Instr.sliceBound,asIntOf,Sem.run_bind,Sem.run_pure,Result.andThen_ok]
   simp_all
  simp only[execOp,ho,an hT0 hx,den,Instr.sliceAt,Sem.run_bind,ar hu,Result.andThen_ok,Instr.slice,Option.map_none,Option.map_some,an hT0 hb]
  simp[hbd,run_sizeOf hsz]
  rcases g6 rfl with⟨q1,q2⟩|⟨blk,c,q1, -⟩
  ·simp[q1]
  ·simp[q1,Addr.add]
 refine⟨_,w,fun _=>θ tg,hrun,Below.refl _ _,by simp,fun θ' hs hn=> ?_⟩
 have hd:=hn 0 (by simp)
 simp only[Nat.add_zero]at hd
 obtain⟨hh,hT⟩:=hI.inv θ' hs
 have e1:θ' tg=θ tg:=hs tg (hI.kn tg _ htv)
 refine⟨hh.JF htv rfl (fun _ _ _=>rfl) hd ?_ (fun a ha=> .inr ⟨a,by rw[e1];exact ha,rfl⟩),by simp[den,hd]⟩
 have hv:=hh.vw tg _ htv
 rw[e1]at hv
 obtain⟨g1,g2,g3,g4,g5,g6⟩:=hv
 exact⟨g1,by omega,⟨g3.1.imp (fun h=>by omega) id,g3.2⟩,fun i hi=>g4 i (by omega),fun a ha i hi=>g5 a ha i (by omega),g6⟩
theorem xf {o:Oper} {t el n m tg tx sx:Nat} {s x:Operand} {i:TypeInfo} {z:Value} {ox:Bool} {elx:TypeId} {f f' f'':Nat→List SV} {A:Nat→Prop} (hI:gM A P gl base θ l hp T w)
  (ho:o.op= .call ⟨.builtin .append, #[s,x], #[t,t]⟩) (hu:P.underlying t=some (.slice el)) (hi:P.info? el=some i) (hz:i.zero=some z) (hzs:z.cells.size=i.size) (h0:0<i.size) (hb0:1≤i.bytes)
  (hs:ev l s=some (.sl tg n)) (hx:ev l x=some (.sl tx m)) (hts:bL hp tg=some (.row true el n i.size f)) (htx:bL hp tx=some (.row ox elx m i.size f'))
  (hb:(n+m)*i.bytes≤140737488355328) (hf: ∀ k,k<n+m→f'' k=if k<n then f k else f' (k-n)):
  ek A P base θ hp w ((execOp (Act.mk T ds).eval o).run P w) (.val (.sl hp.length (n+m)) (hp.set tg none++[some (.row true el (n+m) i.size f'')])):=by
 have hA:xj P t el i.size i.bytes:=⟨hu,⟨i,z,hi,hz,rfl,rfl,hzs⟩,h0⟩
 have hm:n+m≤maxLen:=by
  have:(n+m)*1≤(n+m)*i.bytes:=Nat.mul_le_mul_left _ hb0
  unfold maxLen
  omega
 obtain⟨hh0,hT0⟩:=hI.inv θ (bX.refl _ _)
 have htv:=aN hts
 have hxv:=aN htx
 have htl:tg<hp.length:=(List.getElem?_eq_some_iff.1 htv).1
 have hxl:tx<hp.length:=(List.getElem?_eq_some_iff.1 hxv).1
 obtain⟨v',w',d',hr,hv',hbel,hkeep,hnew,hvw⟩:=uD (P:=P) (w:=w) (θ:=θ) (ty:=o.type) (f'':=f'') hA hI.sz (hh0.vw tg _ htv) (hh0.vw tx _ hxv) hb hm
 refine⟨v',w',fun _=>d', ?_,hbel,by simp,fun θ' hsm hn=> ?_⟩
 ·simp only[execOp,ho,resolve,invoke,builtin,Sem.run_bind,Sem.run_pure,Result.andThen_ok]
  have ea:(#[s,x].map (Act.mk T ds).eval)= #[den θ (.sl tg n),den θ (.sl tx m)]:=by
   simp[an hT0 hs,an hT0 hx]
  rw[ea]
  simp only[den]at hr⊢
  rw[hr]
  rfl
 ·have hd:=hn 0 (by simp)
  simp only[Nat.add_zero]at hd
  obtain⟨hh,hT⟩:=hI.inv θ' hsm
  have e1:θ' tg=θ tg:=hsm tg (hI.kn tg _ htv)
  have e2:θ' tx=θ tx:=hsm tx (hI.kn tx _ hxv)
  refine⟨hh.JF htv rfl (by rw[e1];exact hkeep) hd (hvw θ' (by rw[←e1];exact hh.vw tg _ htv) (by rw[←e2];exact hh.vw tx _ hxv) hf) (by rw[e1];exact hnew),by rw[hv'];simp[den,hd]⟩
theorem pR {o:Oper} {t tn el:TypeId} {k kn:IntKind} {n:Int} {s x:Operand} {i:TypeInfo} {z:Value} {A:Nat→Prop} (hI:gM A P gl base θ l hp T w)
  (ho:o.op= .call ⟨.builtin .append, #[s,x], #[t,tn]⟩) (hu:P.underlying t=some (.slice el)) (hun:P.underlying tn=some (.int kn)) (hi:P.info? el=some i) (hz:i.zero=some z) (hzs:z.cells.size=i.size) (h0:0<i.size) (hb0:1≤i.bytes)
  (hall:(z.cells.toList.map SV.val).all one=true) (hs:ev l s=some (.val (.slice none 0 0))) (hx:ev l x=some (.val (.int k n))) (hn:0<n) (hb:n.toNat*i.bytes≤140737488355328):
  ek A P base θ hp w ((execOp (Act.mk T ds).eval o).run P w) (.val (.sl hp.length n.toNat) (hp++[some (.row true el n.toNat i.size (fun _=>z.cells.toList.map .val))])):=by
 have hm:n.toNat≤140737488355328:=by
  have:n.toNat*1≤n.toNat*i.bytes:=Nat.mul_le_mul_left _ hb0
  omega
 obtain⟨hh0,hT0⟩:=hI.inv θ (bX.refl _ _)
 have hr:=Go.Lib.run_append_nil_zeros (P:=P) w t tn o.type el i z k kn hu hun hi hz n.toNat (by omega) h0 (by omega) (by omega)
 rw[show((n.toNat:Nat):Int)=n by omega]at hr
 have hge:=grownCap_ge w n.toNat 0 el
 have hle:=grownCap_le_maxLen w n.toNat 0 el (by unfold maxLen;omega)
 let cells:=Builtin.zeroCells z.cells n.toNat++Builtin.zeroCells z.cells (grownCap w n.toNat 0 el-n.toNat)
 have hsz:w.drew.heap.size=w.heap.size:=rfl
 have hbw:Below w.heap.size w (w.drew.alloc (.cells cells el)):=((Below.refl w.heap.size w).drew).alloc (Nat.le_refl _) _
 have hblk:(w.drew.alloc (.cells cells el)).heap[w.heap.size]? =some (.cells cells el):=by
  show(w.heap.push _)[w.heap.size]? =_
  simp
 refine⟨.slice (some ⟨w.heap.size,0,none⟩) n.toNat (grownCap w n.toNat 0 el),w.drew.alloc (.cells cells el),fun _=>⟨some ⟨w.heap.size,0,none⟩,grownCap w n.toNat 0 el,i.size⟩, ?_,hbw.mono hI.sz,by simp,fun θ' hsm hn'=> ?_⟩
 ·simp only[execOp,ho,resolve,invoke,builtin,Sem.run_bind,Sem.run_pure,Result.andThen_ok]
  have ea:(#[s,x].map (Act.mk T ds).eval)= #[.slice none 0 0, .int k n]:=by
   simp[an hT0 hs,an hT0 hx,den]
  rw[ea,hr]
  rfl
 ·have hd:=hn' 0 (by simp)
  simp only[Nat.add_zero]at hd
  obtain⟨hh,hT⟩:=hI.inv θ' hsm
  refine⟨hh.push hbw hd ⟨rfl,hge,⟨.inr ⟨_,rfl⟩,fun a ha=>by cases ha;rfl⟩,fun j hj=>⟨by simpa using hzs,hall⟩,fun a ha j hj=> ?_,fun _=> .inr ⟨w.heap.size,cells,rfl,hI.sz,hblk, ?_,hle⟩⟩ (fun a ha=>by cases ha;exact Nat.le_refl _),by simp[den,hd]⟩
  ·cases ha
   intro q v hq
   have hqz:q<i.size:=by have:=(List.getElem?_eq_some_iff.1 hq).1;simpa[hzs]using this
   have hlt:j*i.size+q<n.toNat*i.size:=by
    have:(j+1)*i.size≤n.toNat*i.size:=Nat.mul_le_mul_right _ hj
    grind
   show World.cell? (w.drew.alloc (.cells cells el)) ⟨w.heap.size,0+(j*i.size+q),none⟩=_
   rw[Nat.zero_add,show w.heap.size=w.drew.heap.size from rfl,World.cell?_alloc_new]
   have hmod:(j*i.size+q)%z.cells.size=q:=by rw[hzs,Nat.add_comm,Nat.add_mul_mod_self_right,Nat.mod_eq_of_lt hqz]
   rw[List.getElem?_map]at hq
   cases hc:z.cells.toList[q]? with
   |none=>simp[hc]at hq
   |some u=>
    simp[hc]at hq
    subst hq
    have hc':z.cells[q]? =some u:=by simpa using hc
    show(Builtin.zeroCells z.cells n.toNat++Builtin.zeroCells z.cells (grownCap w n.toNat 0 el-n.toNat))[j*i.size+q]? =_
    rw[Array.getElem?_append_left (by rw[size_zeroCells,hzs];exact hlt)]
    simp[Builtin.zeroCells,hzs,hlt,den]
    simp_all
  ·show(Builtin.zeroCells z.cells n.toNat++Builtin.zeroCells z.cells (grownCap w n.toNat 0 el-n.toNat)).size=_
   rw[Array.size_append,size_zeroCells,size_zeroCells,hzs,←Nat.add_mul]
   simp_all
theorem ra {o:Oper} {t el m tx sx:Nat} {s x:Operand} {i:TypeInfo} {z:Value} {ox:Bool} {elx:TypeId} {f' f'':Nat→List SV} {A:Nat→Prop} (hI:gM A P gl base θ l hp T w)
  (ho:o.op= .call ⟨.builtin .append, #[s,x], #[t,t]⟩) (hu:P.underlying t=some (.slice el)) (hi:P.info? el=some i) (hz:i.zero=some z) (hzs:z.cells.size=i.size) (h0:0<i.size) (hb0:1≤i.bytes)
  (hs:ev l s=some (.val (.slice none 0 0))) (hx:ev l x=some (.sl tx m)) (htx:bL hp tx=some (.row ox elx m i.size f'))
  (hb:m*i.bytes≤140737488355328) (hf: ∀ k,k<m→f'' k=f' k):
  ek A P base θ hp w ((execOp (Act.mk T ds).eval o).run P w) (.val (.sl hp.length m) (hp++[some (.row true el m i.size f'')])):=by
 have hA:xj P t el i.size i.bytes:=⟨hu,⟨i,z,hi,hz,rfl,rfl,hzs⟩,h0⟩
 have hm:0+m≤maxLen:=by
  have:m*1≤m*i.bytes:=Nat.mul_le_mul_left _ hb0
  unfold maxLen
  omega
 obtain⟨hh0,hT0⟩:=hI.inv θ (bX.refl _ _)
 have hxv:=aN htx
 have hxl:tx<hp.length:=(List.getElem?_eq_some_iff.1 hxv).1
 have hnil: ∀ θ',aX θ' base w (⟨none,0,i.size⟩:Ad) (.row true el 0 i.size (fun _=>[])):=fun θ'=>⟨rfl,Nat.le_refl _,⟨.inl rfl,fun a ha=>(by cases ha)⟩,fun k hk=>by omega,fun a ha=>(by cases ha),fun _=> .inl ⟨rfl,rfl⟩⟩
 obtain⟨v',w',d',hr,hv',hbel,hkeep,hnew,hvw⟩:=uD (P:=P) (w:=w) (θ:=θ) (ty:=o.type) (f'':=f'') hA hI.sz (hnil θ) (hh0.vw tx _ hxv) (by simpa using hb) hm
 simp only[Nat.zero_add]at*
 refine⟨v',w',fun _=>d', ?_,hbel,by simp,fun θ' hsm hn=> ?_⟩
 ·simp only[execOp,ho,resolve,invoke,builtin,Sem.run_bind,Sem.run_pure,Result.andThen_ok]
  have ea:(#[s,x].map (Act.mk T ds).eval)= #[.slice none 0 0,den θ (.sl tx m)]:=by
   simp[an hT0 hs,an hT0 hx,den]
  rw[ea]
  simp only[den]at hr⊢
  rw[hr]
  rfl
 ·have hd:=hn 0 (by simp)
  simp only[Nat.add_zero]at hd
  obtain⟨hh,hT⟩:=hI.inv θ' hsm
  have e2:θ' tx=θ tx:=hsm tx (hI.kn tx _ hxv)
  have hbw:Below w.heap.size w w':=⟨hbel.os,hbel.tape,hbel.output,hbel.size,fun k hk=>hkeep k hk (fun a ha=>by cases ha)⟩
  refine⟨hh.push hbw hd (hvw θ' (hnil θ') (by rw[←e2];exact hh.vw tx _ hxv) (fun k hk=>by simp[hf k hk])) (fun a ha=> ?_),by rw[hv'];simp[den,hd]⟩
  simp_all
theorem gL {b:Nat} (hb:base≤b) (o:Obj):Below base w {w with heap:=w.heap.setIfInBounds b o}:=
 ⟨rfl,rfl,rfl,by simp,fun k hk=>by
  show(w.heap.setIfInBounds b o)[k]? =w.heap[k]?
  rw[Array.getElem?_setIfInBounds_ne (by omega)]⟩
theorem F_ {o:Oper} {t kt et:TypeId} {k v:IntKind} (ho:o.op= .makeMap t none) (hu:P.underlying t=some (.map kt et)):
  pS base l hp T w ((execOp (Act.mk T ds).eval o).run P w) (.mp hp.length) (.map true k v (fun _=>0) []):=by
 refine⟨.map (some w.heap.size),w.alloc (.map #[] 0),⟨some ⟨w.heap.size,0,none⟩,0,0⟩, ?_,bR _ _,fun a ha=> ?_,fun θ' hh ht hd=>⟨?_, ?_⟩⟩
 ·simp[execOp,ho,Instr.makeMap,newObj,Result.andThen]
  rfl
 ·cases ha;exact Nat.le_refl _
 ·simp[den,hd]
 ·exact⟨w.heap.size,rfl,fun _=>Nat.le_refl _, #[],0,(MapKept.heap_alloc w _).1,yn⟩
theorem qw {o:Oper} {t:TypeId} {m s x:Operand} {tg:Nat} {k v:IntKind} {f:Int→Int} {s' a n:Int} {st:List (Int×Int)} {A:Nat→Prop} (hI:gM A P gl base θ l hp T w) (ho:o.op= .entryStore t m s x)
  (hm:ev l m=some (.mp tg)) (hs:ev l s=some (.val (.int .i64 s'))) (hx:ev l x=some (.val (.int v n))) (ht:bL hp tg=some (.map true k v f ((s',a)::st))):
  ek A P base θ hp w ((execOp (Act.mk T ds).eval o).run P w) (.skip (hp.set tg (some (.map true k v (fun a'=>if a'=a then n else f a') [])))):=by
 refine jr.sm hI (by simp) (fun θ' hh hT=> ?_)
 have htv:=aN ht
 obtain⟨b,hb,hbb,es,c,he,hin⟩:=hh.vw tg _ htv
 obtain⟨es',hr,hin'⟩:=tU (P:=P) (w:=w) (t:=t) (x:=n) he hin
 refine⟨_, ?_,gL (hbb rfl) (.map es' c), ?_⟩
 ·simp only[execOp,ho,Sem.run_bind,an hT hm,an hT hs,an hT hx,den,hb,Option.map_some,hr,Result.andThen_ok,Sem.run_pure]
 ·refine hh.write (v':= .map true k v _ _) htv rfl rfl hb rfl (fun k hk=> ?_) ⟨b,hb,hbb,es',c,(MapKept.heap_set he).1,hin'.1,hin'.2.1,hin'.2.2.1,fun p hp=>by cases hp⟩
  grind
theorem qS {o:Oper} {t kt et:TypeId} {m y x:Operand} {tg:Nat} {k v:IntKind} {f:Int→Int} {a n:Int} {st:List (Int×Int)} {A:Nat→Prop} (hI:gM A P gl base θ l hp T w) (ho:o.op= .mapUpdate t m y x)
  (hu:P.underlying t=some (.map kt et)) (hk:P.underlying kt=some (.int k)) (hm:ev l m=some (.mp tg)) (hy:ev l y=some (.val (.int k a))) (hx:ev l x=some (.val (.int v n))) (ht:bL hp tg=some (.map true k v f st)):
  ek A P base θ hp w ((execOp (Act.mk T ds).eval o).run P w) (.skip (hp.set tg (some (.map true k v (fun a'=>if a'=a then n else f a') [])))):=by
 refine jr.sm hI (by simp) (fun θ' hh hT=> ?_)
 have htv:=aN ht
 obtain⟨b,hb,hbb,es,c,he,hin⟩:=hh.vw tg _ htv
 obtain⟨es',c',hr,hin'⟩:=uX (P:=P) (w:=w) (a:=a) (x:=n) hu hk he hin
 refine⟨_, ?_,gL (hbb rfl) (.map es' c'), ?_⟩
 ·simp only[execOp,ho,Sem.run_bind,an hT hm,an hT hy,an hT hx,den,hb,Option.map_some,hr,Result.andThen_ok,Sem.run_pure]
 ·refine hh.write (v':= .map true k v _ _) htv rfl rfl hb rfl (fun k hk=> ?_) ⟨b,hb,hbb,es',c',(MapKept.heap_set he).1,hin'⟩
  grind
end
end Go.Sx
namespace Go.Sx
open Go.RowKit
section
variable {P:Program} {gl:List (Nat×Vw)} {base:Nat} {θ:Th} {l:List (Option SV)} {hp:List (Option Vw)} {T:Array Value} {w:World} {ds:List Deferred}
theorem cS {hs hs':List Hint} {o:Oper} {ps:List Prop} {e:Ef} {A:Nat→Prop} (hI:gM A P gl base θ l hp T w) (h:p0 P gl l hp hs o.op=some (ps,hs',e)) (hps:bE ps):
  ek A P base θ hp w ((execOp (Act.mk T ds).eval o).run P w) e:=by
 cases ho:o.op<;>rw[ho]at h<;>simp only[p0]at h<;>try (exact e7 (hs:=hs) hI (by rw[ho];exact h) hps)
 case alloc e'=>
  split at h
  ·rename_i i hi
   split at h
   ·rename_i z hz;cases h;exact jr.hZ hI (v7 ho hi hz)
   ·cases h
  ·cases h
 case box e' x=>
  split at h
  ·rename_i v hv
   split at h
   ·rename_i cs hc;cases h;exact jr.hZ hI (BU ho hv hc)
   ·cases h
  ·cases h
 case store t p x=>
  split at h
  ·rename_i tg j v n hp' hv hsz
   split at h
   ·rename_i cs vcs ht hc
    split at h
    ·rename_i hq
     simp only[Bool.and_eq_true,beq_iff_eq,decide_eq_true_eq]at hq
     obtain⟨⟨rfl,h1⟩,h2⟩:=hq
     cases h
     exact rV hI ho hp' hv ht hsz hc h1 h2
    ·cases h
   ·cases h
  ·rename_i tg i j v n hp' hv hsz
   split at h
   ·rename_i el m sz f vcs f' hs'' ht hc
    split at h
    ·rename_i hq
     simp only[Bool.and_eq_true,beq_iff_eq,decide_eq_true_eq]at hq
     obtain⟨⟨rfl,h1⟩,h2⟩:=hq
     cases h
     exact rU hI ho hp' hv ht hsz hc h1 h2 hps.1 hps.2.1
    ·cases h
   ·cases h
  ·cases h
 case buildSlice t n parts=>
  split at h
  ·rename_i el vs hu hv
   split at h
   ·rename_i i rows hi hr
    split at h
    ·rename_i z f hs'' hz
     split at h
     ·rename_i hq
      simp only[Bool.and_eq_true,beq_iff_eq,decide_eq_true_eq]at hq
      obtain⟨⟨⟨⟨h1,h2⟩,h3⟩,h4⟩,h5⟩:=hq
      cases h
      exact jr.hZ hI (Bv (hI.inv θ (bX.refl _ _)).2 ho hu hi hz h1 rfl h2 h3 hv hr h4 h5 hps.1)
     ·cases h
    ·cases h
   ·cases h
  ·cases h
 case makeSlice t x y=>
  split at h
  ·rename_i el k n k' n' hu hx hy
   split at h
   ·rename_i i hi
    split at h
    ·rename_i z hz
     split at h
     ·rename_i hq
      simp only[Bool.and_eq_true,beq_iff_eq,decide_eq_true_eq]at hq
      obtain⟨⟨h1,h2⟩,h3⟩:=hq
      cases h
      obtain⟨rfl,h5,h6,h7, -⟩:=hps
      exact jr.hZ hI (yo (hI.inv θ (bX.refl _ _)).2 ho hu hi hz h1 rfl h2 hx hy h3 h5 h6 h7)
     ·cases h
    ·cases h
   ·cases h
  ·cases h
 case makeMap t r=>
  cases r with
  |some _=>exact e7 (hs:=hs) hI (by rw[ho];exact h) hps
  |none=>
   simp only at h
   split at h
   ·rename_i kt et hu
    split at h
    ·cases h;exact jr.hZ hI (F_ ho hu)
    ·cases h
   ·cases h
 case mapUpdate t m y x=>
  split at h
  ·rename_i kt et tg k' a v' n hu hm hy hx
   split at h
   ·rename_i k v f st k'' ht hk
    split at h
    ·rename_i hq
     simp only[Bool.and_eq_true]at hq
     obtain⟨⟨c1,c2⟩,c3⟩:=hq
     obtain rfl:=cJ c1
     obtain rfl:=cJ c2
     obtain rfl:=cJ c3
     cases h
     exact qS hI ho hu hk hm hy hx ht
    ·cases h
   ·cases h
  ·cases h
 case entryStore t m s x=>
  split at h
  ·rename_i tg s0 v' n hm hs' hx
   split at h
   ·rename_i k v f s' a st ht
    split at h
    ·rename_i hq
     obtain rfl:=cJ hq
     cases h
     obtain⟨rfl, -⟩:=hps
     exact qw hI ho hm hs' hx ht
    ·cases h
   ·cases h
  ·cases h
 case slice t x lo hi mx=>
  cases mx with
  |some m=>exact e7 (hs:=hs) hI (by rw[ho];exact h) hps
  |none=>
   simp only at h
   split at h
   ·rename_i el tg n hu hx
    split at h
    ·rename_i hs2
     split at h
     ·rename_i el' m sz f s hh ht hsz
      split at h
      ·rename_i k b hb
       split at h
       ·rename_i hq
        rw[beq_iff_eq]at hq
        subst hq
        cases h
        exact CB hI ho hu hx ht hsz hb hps.1
       ·cases h
      ·cases h
     ·cases h
    ·rename_i hs2 hne
     split at h
     ·rename_i o' el' m sz f s k a k' b ht hsz ha hb
      split at h
      ·rename_i hq
       rw[beq_iff_eq]at hq
       subst hq
       cases h
       obtain⟨rfl,hps⟩:=hps
       exact xx hI ho hu hx ht hsz ha hb hps.1 hps.2.1
      ·cases h
     ·cases h
   grind [e7]
 case call c=>
  obtain⟨callee,args,ats⟩:=c
  cases callee with
  |invoke r m=>
   simp only at h
   split at h
   ·rename_i t v as g hs'' hr has
    split at h
    ·rename_i fn hfn
     split at h
     ·rename_i hq
      simp only[Bool.and_eq_true,bne_iff_ne,ne_eq]at hq
      cases h
      have hrun: ∀ θ',eV θ' l T→(execOp (Act.mk T ds).eval o).run P w= .ok (.enter g (ax θ' (v::as)).toArray) w:=fun θ' hT=>by
       have e1:args.map (Act.mk T ds).eval=(ax θ' as).toArray:=by apply Array.ext';rw[Array.toList_map];exact fX (ds:=ds) hT has
       have hb:fn.body.isNone=false:=by cases hq':fn.body<;>simp_all
       have hn:(fn.name== "runtime.NumGoroutine")=false:=by simpa using hq.2
       simp only[execOp,ho,resolve,an hT hr,den,Sem.run_bind,Sem.run_pure,Result.andThen_ok,invoke,e1]
       simp[callMethod,Sem.run_bind,run_program,hps.1 θ' w,callFunc,hfn,hn,hb,ax]
       rw[if_neg hq.2,if_neg (fun h'=>by rw[h']at hb;cases hb)]
      obtain⟨hh0,hT0⟩:=hI.inv θ (bX.refl _ _)
      refine⟨ax θ (v::as),hrun θ hT0,fun θ' hs=> ?_⟩
      have h2:=hrun θ' (hI.inv θ' hs).2
      grind
     ·cases h
    ·cases h
   ·cases h
  |value f=>
   simp only at h
   split at h
   ·grind [e7]
   ·rename_i g first captured as hf has hne
    split at h
    ·rename_i fn hfn
     split at h
     ·rename_i hq
      simp only[Bool.and_eq_true,bne_iff_ne,ne_eq]at hq
      cases h
      have hrun: ∀ θ',eV θ' l T→(execOp (Act.mk T ds).eval o).run P w= .ok (.enter g (ax θ' (first++as++captured)).toArray) w:=fun θ' hT=>by
       have e1:args.map (Act.mk T ds).eval=(ax θ' as).toArray:=by apply Array.ext';rw[Array.toList_map];exact fX (ds:=ds) hT has
       have hb:fn.body.isNone=false:=by cases hq':fn.body<;>simp_all
       simp only[execOp,ho,resolve,an hT hf,den,Deferred.ofValue,Sem.run_bind,Sem.run_pure,Result.andThen_ok,invoke,callFunc,run_program,hfn,e1]
       have hn:(fn.name== "runtime.NumGoroutine")=false:=by simpa using hq.2
       rw[hn,hb]
       simp[aC]
      obtain⟨hh0,hT0⟩:=hI.inv θ (bX.refl _ _)
      refine⟨ax θ (first++as++captured),hrun θ hT0,fun θ' hs=> ?_⟩
      have h2:=hrun θ' (hI.inv θ' hs).2
      grind
     ·cases h
    ·cases h
   ·cases h
  |builtin b=>
   cases b<;>try (simp only[p0]at h;exact e7 (hs:=hs) hI (by rw[ho];exact h) hps)
   case append=>
    simp only at h
    split at h
    ·rename_i s x t t' hargs hats
     have ea:args= #[s,x]:=by apply Array.ext';simpa using hargs
     have et:ats= #[t,t']:=by apply Array.ext';simpa using hats
     subst ea et
     split at h
     ·rename_i el sv tx m f'' hs'' hu hsv hx
      split at h
      ·rename_i i ox elx m' sx f' hi htx
       split at h
       ·rename_i z hz
        split at h
        ·rename_i hq
         simp only[Bool.and_eq_true,beq_iff_eq,decide_eq_true_eq]at hq
         obtain⟨⟨⟨⟨rfl,h1⟩,h2⟩,h3⟩,rfl⟩:=hq
         split at h
         ·rename_i ts n
          split at h
          ·rename_i el' n' ss f hts
           split at h
           ·rename_i hq
            simp only[Bool.and_eq_true,beq_iff_eq]at hq
            obtain⟨rfl,rfl⟩:=hq
            cases h
            obtain⟨rfl,rfl,hps⟩:=hps
            exact xf (sx:=0) hI ho hu hi hz h1 h2 h3 hsv hx hts htx hps.1 hps.2.1
           ·cases h
          ·cases h
         ·cases h
          obtain⟨rfl,hps⟩:=hps
          exact ra (sx:=0) hI ho hu hi hz h1 h2 h3 hsv hx htx hps.1 hps.2.1
         ·cases h
        ·cases h
       ·cases h
      ·cases h
     ·rename_i el k n hs'' hu hsv hx
      split at h
      ·rename_i i kn hi hun
       split at h
       ·rename_i z hz
        split at h
        ·rename_i hq
         simp only[Bool.and_eq_true,beq_iff_eq,decide_eq_true_eq]at hq
         obtain⟨⟨⟨h1,h2⟩,h3⟩,h4⟩:=hq
         cases h
         exact pR hI ho hu hun hi hz h1 h2 h3 h4 hsv hx hps.1 hps.2.1
        ·cases h
       ·cases h
      ·cases h
     ·cases h
    ·cases h
end
end Go.Sx
namespace Go.Sx
open Go.RowKit
def ab (P:Program) (gl:List (Nat×Vw)) (f:FuncId) (args:List SV) (hp:List (Option Vw)) (res:SV) (new:List (Option Vw)):Prop:=
 ∀ (θ:Th) (w:World),bm θ w.heap.size hp w→vr gl w→Calls P f (ax θ args).toArray w fun e w'=>Below w.heap.size w w'∧ ∃ r,e= .returned r∧
   ∃ nw:Nat→Ad, ∀ θ',az hp.length θ θ'→(∀ k,k<new.length→θ' (hp.length+k)=nw k)→r=den θ' res∧bm θ' w.heap.size (hp++new) w'
def idx (t:Nat):List Nat→Nat→Option Nat
 |[],_=>none
 |s::r,k=>if s==t then some k else idx t r (k+1)
def inv (σ:List Nat) (t:Nat):Nat:=match idx t σ 0 with
 |some k=>k
 |none=>σ.length+t
def fwd (σ:List Nat) (n t:Nat):Nat:=if t<σ.length then σ.getD t 0 else n+(t-σ.length)
def iN:List (Option Vw)→Bool:=fun l=>l.all fun x=>match x with
 |some v=>v.own
 |none=>false
def dX (l:List (Option SV)) (d:Option Tmp) (v:SV):List (Option SV):=match d with
 |some d=>l.set d (some v)
 |none=>l
def fN (ops:Array Oper) (l:List (Option SV)) (hs:List Hint) (o:Oper):Option (List Prop×List Hint×Bool):=match o.guard with
 |none=>some ([],hs,true)
 |some (j,want)=>match (ops[j]?).bind (·.dst)with
  |some d=>match l[d]? with
   |some (some (.val (.bool b)))=>match hs with
    | .b t::hs=>some ([b=t],hs,t==want)
    |_=>none
   |some (some (.af []))=>some ([],hs,false)
   |_=>none
  |none=>none
def qZ (σ:List Nat) (hp:List (Option Vw)):List (Option Vw):=σ.map fun t=>(bL hp t).map fun v=>(v.ew (inv σ)).ro
structure iF where
 v:SV
 news:List Vw
 jt:Nat
 oV:Option Nat:=none
def g_:List iF→Nat
 |[]=>0
 |r::rs=>r.news.length+g_ rs
def bj (N:Nat) (res:List iF) (q:Nat):Nat:=N+g_ (res.take q)
def BN (N:Nat) (res:List iF) (jt:Nat):Option Nat→Bool
 |none=>true
 |some t=>decide (N≤t)&&(List.range res.length).all fun q=> !(decide (bj N res q≤t)&&decide (t<bj N res (q+1)))||
   (List.range res.length).all fun j=> !(j==q||(((res[j]?).map iF.jt).getD 0).testBit q)||jt.testBit j
def bC (o:Oper):List Nat:=(o.after.toList.filter (fun e=>Region.binds .any e)).map (·.on)
def KO (P:Program) (gl:List (Nat×Vw)) (l:List (Option SV)) (hp:List (Option Vw)) (hs:List Hint) (o:Op):Option (List Prop×List Hint×SV×List Vw×Option Nat):=
 match o with
 | .alloc e=>match P.info? e with
   |some i=>match i.zero with
    |some z=>some ([],hs, .ptr hp.length 0,[.box true (z.cells.toList.map .val)],none)
    |none=>none
   |none=>none
 | .box _ x=>match ev l x with
   |some v=>match cZ v with
    |some cs=>some ([],hs, .ptr hp.length 0,[.box true cs],none)
    |none=>none
   |none=>none
 | .buildSlice t n parts=>match P.underlying t,xm l (parts.toList.map (·.2))with
   |some (.slice el),some vs=>match P.info? el,rowsOf 0 ((parts.toList.map (·.1)).zip vs)with
    |some i,some rows=>match i.zero,hs with
     |some z, .row f::hs=>if z.cells.size==i.size&&decide (0<i.size)&&decide (n*i.size≤16777216)&&rows.length==n&&rows.all (fun r=>r.length==i.size&&r.all one)then
       some ([∀ k,k<n→f k=rows.getD k []],hs, .sl hp.length n,[.row true el n i.size f],none)else none
     |_,_=>none
    |_,_=>none
   |_,_=>none
 | .makeSlice t x y=>match P.underlying t,ev l x,ev l y with
   |some (.slice el),some (.val (.int k n)),some (.val (.int k' n'))=>match P.info? el with
    |some i=>match i.zero with
     |some z=>if z.cells.size==i.size&&decide (0<i.size)&&(z.cells.toList.map SV.val).all one then
       some ([n=n',0≤n,(i.bytes:Int)*n≤281474976710656,n≤9223372036854775807],hs, .sl hp.length n.toNat,[.row true el n.toNat i.size (fun _=>z.cells.toList.map .val)],none)else none
     |none=>none
    |none=>none
   |_,_,_=>none
 | .call ⟨.value f,args,ats⟩=>match p0 P gl l hp hs (.call ⟨.value f,args,ats⟩)with
   |some (ps,hs', .val v hp')=>match iH P gl l hp hs (.call ⟨.value f,args,ats⟩)with
    |some (ps,hs',v)=>some (ps,hs',v,[],none)
    |none=>none
   |some (qs, .call σ res new::hs', .enter g as)=>if iN new&&σ.all (fun t=>decide (t<hp.length)&&(bL hp t).isSome)then
     some (qs++[ab P gl g (dU (inv σ) as) (qZ σ hp) res new],hs',ew (fwd σ hp.length) res,(new.filterMap id).map (Vw.ew (fwd σ hp.length)),none)
    else none
   |_=>none
 | .slice t x lo hi none=>match P.underlying t,ev l x with
   |some (.slice el),some (.sl tg n)=>match bL hp tg,eZ P el,(match lo with|some a=>ev l a|none=>some (.val (.int .i64 0))),(match hi with|some a=>ev l a|none=>some (.val (.int .i64 (n:Int))))with
    |some (.row false el' m sz f),some s,some (.val (.int _ a)),some (.val (.int _ b))=>if s==sz then
      some ([m=n,0≤b∧b≤(n:Int),0≤a∧a≤b],hs, .sl hp.length (b.toNat-a.toNat),[.row false el' (b.toNat-a.toNat) sz (fun k=>f (k+a.toNat))],none)else none
    |_,_,_,_=>none
   |_,_=>match iH P gl l hp hs (.slice t x lo hi none)with
    |some (ps,hs',v)=>some (ps,hs',v,[],none)
    |none=>none
 | .call ⟨.builtin .append,args,ats⟩=>match args.toList,ats.toList with
   |[s,x],[t,t']=>match P.underlying t,ev l s,ev l x,hs with
    |some (.slice el),some (.sl ts n),some (.sl tx m), .row f''::hs=>match P.info? el,bL hp tx,bL hp ts with
     |some i,some (.row _ _ m' sx f'),some (.row true el' n' ss f)=>match i.zero with
      |some z=>if t==t'&&z.cells.size==i.size&&decide (0<i.size)&&decide (1≤i.bytes)&&sx==i.size&&el'==el&&ss==i.size then
        some ([m=m',n=n',(n+m)*i.bytes≤140737488355328, ∀ k,k<n+m→f'' k=if k<n then f k else f' (k-n)],hs, .sl hp.length (n+m),[.row true el (n+m) i.size f''],some ts)else none
      |none=>none
     |_,_,_=>none
    |_,_,_,_=>none
   |_,_=>none
 |o=>match iH P gl l hp hs o with
  |some (ps,hs',v)=>some (ps,hs',v,[],none)
  |none=>none
def dS (ops:Array Oper) (q:Nat):Option Tmp:=(ops[q]?).bind (·.dst)
def waits (ops:Array Oper) (i q:Nat):Bool:=match ops[q]? with
 |some o=>(bC o).contains i
 |none=>false
def fw (ops:Array Oper) (res:List iF) (ok no:Nat→Bool):Nat→List (Option SV)→List (Option SV)
 |0,l=>l
 |m+1,l=>match dS ops m with
  |some d=>if no m then fw ops res ok no m l else(fw ops res ok no m l).set d (if ok m then(res[m]?).map (·.v)else none)
  |none=>fw ops res ok no m l
def tS (ok:Nat→Bool):Nat→List iF→List (Option Vw)
 |_,[]=>[]
 |q,r::rs=>(r.news.map fun v=>if ok q then some v else none)++tS ok (q+1) rs
def wY:List iF→List Nat
 |[]=>[]
 |r::rs=>match r.oV with
  |some t=>t::wY rs
  |none=>wY rs
def mask:List Nat→List (Option Vw)→List (Option Vw)
 |[],h=>h
 |t::r,h=>mask r (h.set t none)
def gW (hp:List (Option Vw)) (res:List iF) (ok:Nat→Bool):List (Option Vw):=mask (wY res) (hp++tS ok 0 res)
def kH (res:List iF):List Nat→Nat
 |[]=>0
 |j::r=>2^j|||((res[j]?).map (·.jt)).getD 0|||kH res r
def qv (P:Program) (gl:List (Nat×Vw)) (ops:Array Oper) (m:Nat) (l:List (Option SV)) (hp:List (Option Vw)):Nat→List iF→List Hint→Option (List Prop×List Hint×List iF)
 |0,res,hs=>some ([],hs,res)
 |n+1,res,hs=>match ops[res.length]? with
  |none=>none
  |some o=>match fN ops (fw ops res (bC o).contains (waits ops res.length) m l) hs o with
   |some (ps,hs,false)=>match qv P gl ops m l hp n (res++[⟨.af [],[],kH res (bC o),none⟩]) hs with
    |some (qs,hs',r)=>some (ps++qs,hs',r)
    |none=>none
   |some (ps,hs,true)=>match KO P gl (fw ops res (bC o).contains (waits ops res.length) m l) (gW hp res (kH res (bC o)).testBit) hs o.op with
    |some (qs,hs,v,news,oV)=>if BN hp.length res (kH res (bC o)) oV then match qv P gl ops m l hp n (res++[⟨v,news,kH res (bC o),oV⟩]) hs with
     |some (rs,hs',r)=>some (ps++(qs++rs),hs',r)
     |none=>none else none
    |none=>none
   |none=>none
def kx (ops:Array Oper) (res:List iF):List Nat→List (Option SV)→List (Option SV)
 |[],l=>l
 |p::F,l=>match dS ops p,res[p]? with
  |some d,some r=>kx ops res F (l.set d (some r.v))
  |_,_=>kx ops res F l
def D4 (F:List Nat) (o:Oper):List Nat:=F.filter (bC o).contains
def L_ (k:Nat):List Hint:=if 64≤k then[.w]else[]
def zg (hw:List Hint) (P:Program) (gl:List (Nat×Vw)) (ops:Array Oper) (res:List iF) (l:List (Option SV)) (hp:List (Option Vw)) (F0:List Nat):List Nat→Option (List Prop)
 |[]=>some []
 |p::F=>match ops[p]?,res[p]? with
  |some o,some r=>if o.guard.isNone&&r.news.isEmpty then match iH P gl (kx ops res (D4 F0 o) l) hp hw o.op with
    |some (ps,_,v)=>match zg hw P gl ops res l hp F0 F with
     |some qs=>some ((v=r.v)::(ps++qs))
     |none=>none
    |_=>none else none
  |_,_=>none
def rO (hw:List Hint) (P:Program) (gl:List (Nat×Vw)) (ops:Array Oper) (F:List Nat) (res:List iF):Nat→Nat→List (Option SV)→List (Option Vw)→List Hint→Option (List Prop×List Hint×List (Option SV)×List (Option Vw))
 |0,_,l,hp,hs=>some ([],hs,l,hp)
 |n+1,i,l,hp,hs=>match ops[i]? with
  |some o=>if o.guard.isNone then match p0 P gl l hp hs o.op with
    |some (ps,hs, .skip hp')=>if o.dst.isNone then match zg hw P gl ops res l hp' F F,rO hw P gl ops F res n (i+1) l hp' hs with
     |some qs,some (rs,hs',l2,hp2)=>some (ps++(qs++rs),hs',l2,hp2)
     |_,_=>none
     else none
    |some (ps,hs, .val v hp')=>if F.all (fun p=>dS ops p !=o.dst)then match zg hw P gl ops res (dX l o.dst v) hp' F F,rO hw P gl ops F res n (i+1) (dX l o.dst v) hp' hs with
     |some qs,some (rs,hs',l2,hp2)=>some (ps++(qs++rs),hs',l2,hp2)
     |_,_=>none
     else none
    |_=>none else none
  |none=>none
def cc (ops:Array Oper) (m:Nat) (F:List Nat) (kt:Nat):Bool:=
 (List.range ops.size).all (fun i=>match ops[i]? with
  |some o=>(bC o).all (fun j=>decide (j<i))&&(decide (i<m)||(List.range i).all fun j=>(decide (i<m+kt)&&F.contains j)||((bC o).contains j||(List.range i).any fun k=>decide (j<k)&&waits ops j k&& !(decide (i<m+kt)&&F.contains k)))
  |none=>false)&&
 (List.range m).all (fun i=>(List.range i).all fun j=>match dS ops i,dS ops j with
  |some a,some b=>a !=b
  |_,_=>true)&&decide (m+kt≤ops.size)
def xG (gl:List (Nat×Vw)) (P:Program) (hp:List (Option Vw)) (l:List (Option SV)):List ResultVar→Option (List SV)
 |[]=>some []
 | .tmp t::r=>match l[t]?,xG gl P hp l r with
   |some (some v),some vs=>some (v::vs)
   |_,_=>none
 | .cell a t::r=>match l[a]?,rZ P t,eZ P t with
   |some (some x),some ag,some (n+1)=>match sC gl hp (n+1) x,xG gl P hp l r with
    |some ([],cs),some vs=>match Hm ag cs with
     |some v=>some (v::vs)
     |none=>none
    |_,_=>none
   |_,_,_=>none
def DM:List SV→SV
 |[v]=>v
 |vs=> .af vs
def Ce (P:Program) (gl:List (Nat×Vw)) (hp:List (Option Vw)) (fr:iD):Option SV:=match P.funcs[fr.fn]? with
 |some fn=>match xG gl P hp fr.tmps fn.results.toList with
  |some vs=>some (DM vs)
  |none=>none
 |none=>none
def I_ (fr:iD) (v:SV):Option iD:=match fr.todo with
 | .inRegion ops (i::rest)::k=>match ops[i]? with
   |some o=>some {fr with tmps:=dX fr.tmps o.dst v,todo:= .inRegion ops rest::k}
   |none=>none
 |_=>none
def wD (fr:iD):Bool:=fr.rx.rd.isNone&&fr.rx.ds.isEmpty&& !fr.rx.df
def FN (P:Program) (gl:List (Nat×Vw)) (hs:List Hint) (fr:iD) (bo:List iD) (hp:List (Option Vw)):Option (List Prop×List Hint×SC):=match bo with
 |cl::rest=>if wD fr then match Ce P gl hp fr with
  |some v=>match I_ cl v with
   |some cl'=>some ([],hs,⟨cl'::rest,hp⟩)
   |none=>none
  |none=>none else none
 |[]=>none
def EJ (hs:List Hint) (fr:iD) (bo:List iD) (hp:List (Option Vw)) (v:Option SV) (t e:Code) (k:List Item):Option (List Prop×List Hint×SC):=match v,hs with
 |some (.val (.bool b)), .b true::hs=>some ([b=true],hs,⟨{fr with todo:= .code t::k}::bo,hp⟩)
 |some (.val (.bool b)), .b false::hs=>some ([b=false],hs,⟨{fr with todo:= .code e::k}::bo,hp⟩)
 |_,_=>none
def qJ (P:Program) (gl:List (Nat×Vw)) (hs:List Hint) (c:SC):Option (List Prop×List Hint×SC):=match c with
 |⟨fr::bo,hp⟩=>
  let go (k:List Item):Option (List Prop×List Hint×SC):=some ([],hs,⟨{fr with todo:=k}::bo,hp⟩)
  match fr.todo with
  |[]=>FN P gl hs fr bo hp
  | .code .ret::_=>FN P gl hs fr bo hp
  | .code .skip::k=>go k
  | .code (.label _)::k=>go k
  | .inBlock _::k=>go k
  | .inScope _::k=>go k
  | .code (.seq a b)::k=>go (.code a:: .code b::k)
  | .code (.cond o t e)::k=>EJ hs fr bo hp (ev fr.tmps o) t e k
  | .code (.block id b)::k=>go (.code b:: .inBlock id::k)
  | .code (.loop b)::k=>go (.code b:: .inLoop b::k)
  | .inLoop b::k=>go (.code b:: .inLoop b::k)
  | .code (.scope b)::k=>go (.code b:: .inScope b::k)
  | .code (.exit id)::k=>match exitTo id k with
    |some k'=>go k'
    |none=>none
  | .code (.goto l)::k=>match gotoIn l k with
    |some k'=>go k'
    |none=>none
  | .code (.region _ ops false)::k=>go (.inRegion ops (List.range ops.size)::k)
  | .code (.region _ ops true)::k=>match hs with
    | .draw m F k0::hs=>if cc ops m F (k0%64)&&(F.all fun p=>decide (p<m))&&P.follows .mixedOrders then match qv P gl ops m fr.tmps hp m [] hs with
      |some (ps,hs,res)=>match zg (L_ k0) P gl ops res (fw ops res (fun q=> !F.contains q) (fun _=>false) m fr.tmps) (gW hp res (fun _=>true)) F F,
        rO (L_ k0) P gl ops F res (k0%64) m (fw ops res (fun q=> !F.contains q) (fun _=>false) m fr.tmps) (gW hp res (fun _=>true)) hs with
       |some qs,some (rs,hs,l',hp')=>some (ps++(qs++rs),hs,⟨{fr with tmps:=kx ops res F l',todo:= .inRegion ops (List.range' (m+k0%64) (ops.size-(m+k0%64)))::k}::bo,hp'⟩)
       |_,_=>none
      |none=>none
      else none
    |_=>none
  | .inRegion _ []::k=>go k
  | .inRegion ops (i::rest)::k=>match ops[i]? with
    |none=>none
    |some o=>match fN ops fr.tmps hs o with
     |some (ps,hs,false)=>some (ps,hs,⟨{fr with tmps:=dX fr.tmps o.dst (.af []),todo:= .inRegion ops rest::k}::bo,hp⟩)
     |some (ps,hs,true)=>match p0 P gl fr.tmps hp hs o.op with
      |some (qs,hs, .val v hp')=>some (ps++qs,hs,⟨{fr with tmps:=dX fr.tmps o.dst v,todo:= .inRegion ops rest::k}::bo,hp'⟩)
      |some (qs,hs, .skip hp')=>some (ps++qs,hs,⟨{fr with tmps:=dX fr.tmps o.dst (.af []),todo:= .inRegion ops rest::k}::bo,hp'⟩)
      |some (qs, .inl::hs, .enter f args)=>match P.funcs[f]? with
       |some fn=>match fn.body with
        |some b=>some (ps++qs,hs,⟨{fn:=f,tmps:=args.map some++List.replicate (fn.ntmps-args.length) (some (.af [])),todo:=[.code b]}::fr::bo,hp⟩)
        |none=>none
       |none=>none
      |some (qs, .call σ res new::hs, .enter f args)=>if iN new&&σ.all (fun t=>decide (t<hp.length))then
        some (ps++qs++[ab P gl f (dU (inv σ) args) (σ.map fun t=>(bL hp t).map fun v=>(v.ew (inv σ)).ro) res new],hs,
         ⟨{fr with tmps:=dX fr.tmps o.dst (ew (fwd σ hp.length) res),todo:= .inRegion ops rest::k}::bo,hp++new.map fun x=>x.map (Vw.ew (fwd σ hp.length))⟩)
       else none
      |_=>none
     |none=>none
  |_=>none
 |_=>none
theorem yy: ∀ {σ:List Nat} {t k j:Nat},idx t σ k=some j→k≤j∧j-k<σ.length∧σ.getD (j-k) 0=t
 |[],t,k,j,h=>by cases h
 |s::r,t,k,j,h=>by
  simp only[idx]at h
  split at h
  ·simp_all
  ·obtain⟨h1,h2,h3⟩:=yy h
   grind
def back (σ:List Nat) (k:Nat):Nat:=if k<σ.length then σ.getD k 0 else k-σ.length
theorem uC (σ:List Nat) (t:Nat):back σ (inv σ t)=t:=by
 unfold inv
 split
 ·rename_i k hk
  obtain⟨-,h1,h2⟩:=yy hk
  simp only[Nat.sub_zero]at h1 h2
  show(if k<σ.length then σ.getD k 0 else k-σ.length)=t
  rw[if_pos h1,h2]
 ·show(if σ.length+t<σ.length then σ.getD (σ.length+t) 0 else σ.length+t-σ.length)=t
  rw[if_neg (by omega)];omega
end Go.Sx
namespace Go.Sx
open Go.RowKit
section
variable {P:Program} {b:Frame} {a:Act} {k:List Item} {cs:List Frame} {w:World} {ops:Array Oper}
variable {rx:Rx} {fn:FuncId} {T:Array Value} {o:Oper} {i:Nat} {rest:List Nat}
theorem wR (T:Array Value) (ds:List Deferred):(Act.mk T ds).eval=(Act.mk T []).eval:=funext fun x=>by cases x<;>rfl
theorem DG (T:Array Value) (ds:List Deferred) (d:Option Tmp) (v:Value):(Act.mk T ds).put d v=⟨((Act.mk T []).put d v).tmps,ds⟩:=by cases d<;>rfl
theorem F9 (rx:Rx) (fn:FuncId) (T:Array Value) (todo:List Item):au rx fn T todo=({(default:Frame)with fn:=fn,kind:=cond rx.df .deferred .normal,roundOf:=rx.rd}:Frame).atR {tmps:=T,defers:=rx.ds} todo:=rfl
theorem il {v:Value} (ho:ops[i]? =some o):(au rx fn T (.inRegion ops (i::rest)::k)).finish v=au rx fn ((Act.mk T []).put o.dst v).tmps (.inRegion ops rest::k):=by
 rw[F9,Frame.finish_atR,ho]
 simp only[Option.bind_some]
 rw[DG]
 rfl
theorem DR {ρ:Operand→Value} {r:Next} {w':World} (hr:(execOp ρ o).run P w= .ok r w') (hn: ∀ d,r≠ .defer d): ∀ c,o.op≠ .defer c:=by
 intro c hc
 unfold execOp at hr
 rw[hc]at hr
 simp only[Sem.run_bind]at hr
 cases hq:(resolve ρ c o.type).run P w with
 |ok d w1=>
  rw[hq]at hr
  simp only[Result.andThen_ok,Sem.run_pure]at hr
  cases hr
  exact hn _ rfl
 |halt a b=>
  simp_all
theorem p_ {r:Next} {w':World} (ho:ops[i]? =some o) (hw:Region.wanted o (yielded ops T)=true) (hr:(execOp (Act.mk T []).eval o).run P w= .ok r w') (hn: ∀ d,r≠ .defer d):
  stepG P true {frame:=au rx fn T (.inRegion ops (i::rest)::k),callers:=cs,status:= .running,dying:=none} w=stepG.apply P true (au rx fn T (.inRegion ops (i::rest)::k)) cs none (execOp (Act.mk T []).eval o) w:=by
 have h:=stepGR_op (P:=P) (b:={(default:Frame)with fn:=fn,kind:=cond rx.df .deferred .normal,roundOf:=rx.rd}) (a:=⟨T,rx.ds⟩) (k:=k) (cs:=cs) (w:=w) (rest:=rest) ho hw
 rw[Oper.semAt_eq _ _ _ (DR hr hn),wR]at h
 exact h
theorem eu {v:Value} {w':World} (ho:ops[i]? =some o) (hw:Region.wanted o (yielded ops T)=true) (hr:(execOp (Act.mk T []).eval o).run P w= .ok (.value v) w'):
  step P (lone (au rx fn T (.inRegion ops (i::rest)::k)) cs w)= .next (lone (au rx fn ((Act.mk T []).put o.dst v).tmps (.inRegion ops rest::k)) cs w'):=by
 have hg:=p_ (rx:=rx) (fn:=fn) (k:=k) (cs:=cs) (rest:=rest) ho hw hr (by simp)
 refine step_lone_go ?_
 rw[hg,←il ho];simp[stepG.apply,hr]
theorem pt {w':World} (ho:ops[i]? =some o) (hw:Region.wanted o (yielded ops T)=true) (hr:(execOp (Act.mk T []).eval o).run P w= .ok .skip w'):
  step P (lone (au rx fn T (.inRegion ops (i::rest)::k)) cs w)= .next (lone (au rx fn ((Act.mk T []).put o.dst undef).tmps (.inRegion ops rest::k)) cs w'):=by
 have hg:=p_ (rx:=rx) (fn:=fn) (k:=k) (cs:=cs) (rest:=rest) ho hw hr (by simp)
 refine step_lone_go ?_
 rw[hg,←il ho];simp[stepG.apply,hr]
theorem fv {f:FuncId} {args:Array Value} {w':World} (ho:ops[i]? =some o) (hw:Region.wanted o (yielded ops T)=true) (hr:(execOp (Act.mk T []).eval o).run P w= .ok (.enter f args) w'):
  step P (lone (au rx fn T (.inRegion ops (i::rest)::k)) cs w)= .next (lone (Frame.enter P f args .normal) (au rx fn T (.inRegion ops (i::rest)::k)::cs) w'):=by
 have hg:=p_ (rx:=rx) (fn:=fn) (k:=k) (cs:=cs) (rest:=rest) ho hw hr (by simp)
 refine step_lone_go ?_
 rw[hg];simp[stepG.apply,hr,au,Frame.atR]
theorem vy (ho:ops[i]? =some o) (hw:Region.wanted o (yielded ops T)=false):
  step P (lone (au rx fn T (.inRegion ops (i::rest)::k)) cs w)= .next (lone (au rx fn ((Act.mk T []).put o.dst undef).tmps (.inRegion ops rest::k)) cs w):=by
 have hs:=stepR_op_skip (P:=P) (b:={(default:Frame)with fn:=fn,kind:=cond rx.df .deferred .normal,roundOf:=rx.rd}) (a:=⟨T,rx.ds⟩) (k:=k) (cs:=cs) (w:=w) (ops:=ops) (i:=i) (rest:=rest) (by simp[ho,hw])
 simp only[ho,Option.bind_some]at hs
 rw[DG]at hs
 exact hs
theorem sX {c:Operand} {x y:Code} {t:Bool} (h:(Act.mk T []).eval c= .bool t):step P (lone (au rx fn T (.code (.cond c x y)::k)) cs w)= .next (lone (au rx fn T (.code (if t then x else y)::k)) cs w):=
 stepR_cond (by rw[wR];exact h)
theorem zf {id:Nat}:step P (lone (au rx fn T (.code (.region id ops true)::k)) cs w)=
   .next (lone (au rx fn T (.inRegion ops (Region.schedule (P.follows .mixedOrders) ops (w.tape w.drawn (.order fn id)))::k)) cs w.drew):=stepR_region_draw
theorem xv {c:Code}:step P (lone (au rx fn T (.code (.scope c)::k)) cs w)= .next (lone (au rx fn T (.code c:: .inScope c::k)) cs w):=
 step_lone_go (by simp[stepG,stepG.exec,au,Frame.atR])
theorem uO {c:Code}:step P (lone (au rx fn T (.inScope c::k)) cs w)= .next (lone (au rx fn T k) cs w):=
 step_lone_go (by simp[stepG,stepG.exec,au,Frame.atR])
theorem tW {f:FuncId} {fn:Func} {body:Code} {args:Array Value} (hf:P.funcs[f]? =some fn) (hb:fn.body=some body):
  Frame.enter P f args .normal=au {} f (args++Array.replicate (fn.ntmps-args.size) undef) [.code body]:=by
 simp[Frame.enter,au,Frame.atR,hf,hb]
end
section
variable {X:Cx} {θ:Th} {l:List (Option SV)} {hp:List (Option Vw)} {T:Array Value} {w:World}
theorem eV.set {v:SV} {r:Value} {d:Option Tmp} {ds:List Deferred} (h:eV θ l T) (hr:r=den θ v):eV θ (dX l d v) (((Act.mk T ds).put d r).tmps):=by
 cases d with
 |none=>exact h
 |some d=>
  refine⟨by simp[dX,Act.put,h.1],fun j u hj=> ?_⟩
  simp only[dX,List.getElem?_set]at hj
  simp only[Act.put,Array.getElem?_setIfInBounds]
  split at hj
  ·rename_i he
   subst he
   split at hj
   ·rename_i hlt
    cases hj
    rw[h.1]
    simp[hlt,hr]
   ·cases hj
  ·rename_i he
   simp only[he,if_false]
   exact h.2 j u hj
theorem Ok.go {fr:iD} {bo:List iD} {todo':List Item} (h: ∀ θ T cs w,eV θ fr.tmps T→step X.P (lone (au fr.rx fr.fn T fr.todo) cs w)= .next (lone (au fr.rx fr.fn T todo') cs w))
  (hk:Ok X ⟨{fr with todo:=todo'}::bo,hp⟩):Ok X ⟨fr::bo,hp⟩:=by
 refine Ok.sk (c':=⟨{fr with todo:=todo'}::bo,hp⟩) (Nat.le_refl _) (fun θ m ms w hh=> ?_) hk
 have hr:=(hh.rel θ (az.refl _ _)).fr
 cases hr with
 |cons h1 h2=>
  obtain⟨T,rfl,hT⟩:=h1
  refine⟨au fr.rx fr.fn T todo',ms,w,fun _=>⟨none,0,0⟩, .one (h θ T _ w hT),Below.refl _ _,fun θ' hs _=> ?_⟩
  have hr':=hh.rel θ' hs
  refine⟨hr'.hp, ?_⟩
  cases hr'.fr with
  |cons h1' h2'=>
   obtain⟨T',he,hT'⟩:=h1'
   have:T'=T:=by have:=congrArg Frame.tmps he;simpa[au,Frame.atR]using this.symm
   subst this
   exact .cons ⟨T',rfl,hT'⟩ h2'
theorem dz.pre {fr:iD} {bo:List iD} {m:Frame} {ms:List Frame} (hh:dz X θ ⟨fr::bo,hp⟩ (m::ms) w):
  ∃ T,m=au fr.rx fr.fn T fr.todo∧LX X.P X.gl X.base θ fr.tmps hp T w∧ ∀ θ',az hp.length θ θ'→kJ θ' bo ms:=by
 have hr:=(hh.rel θ (az.refl _ _)).fr
 cases hr with
 |cons h1 h2=>
  obtain⟨T,rfl,hT⟩:=h1
  refine⟨T,rfl,⟨fun θ' hs=> ?_,fun t v ht=>(List.getElem?_eq_some_iff.1 ht).1,hh.gX,hh.gb,hh.sz⟩,fun θ' hs=> ?_⟩
  ·have hr':=hh.rel θ' hs
   refine⟨hr'.hp, ?_⟩
   cases hr'.fr with
   |cons h1' h2'=>
    obtain⟨T',he,hT'⟩:=h1'
    have:T'=T:=by have:=congrArg Frame.tmps he;simpa[au,Frame.atR]using this.symm
    subst this
    exact hT'
  ·cases(hh.rel θ' hs).fr with
   |cons h1' h2'=>exact h2'
theorem cK {ops:Array Oper} {hs hs':List Hint} {o:Oper} {ps:List Prop} {g:Bool} (h:fN ops l hs o=some (ps,hs',g)) (hps:bE ps) (hT:eV θ l T):Region.wanted o (yielded ops T)=g:=by
 unfold fN at h
 unfold Region.wanted
 cases hg:o.guard with
 |none=>simp only[hg,Option.some.injEq,Prod.mk.injEq]at h;exact h.2.2
 |some q=>
  obtain⟨j,want⟩:=q
  simp only[hg]at h⊢
  unfold yielded
  cases hd:(ops[j]?).bind (·.dst)with
  |none=>simp[hd]at h
  |some d=>
   simp only[hd,Option.bind_some]at h⊢
   split at h
   ·rename_i b hb
    have:=hT.2 d _ hb
    split at h
    ·rename_i t hs''
     simp only[Option.some.injEq,Prod.mk.injEq]at h
     obtain⟨rfl, -,rfl⟩:=h
     simp only[this,den,hps.1]
     simp_all
    ·cases h
   ·rename_i hb
    have:=hT.2 d _ hb
    simp only[Option.some.injEq,Prod.mk.injEq]at h
    obtain⟨-, -,rfl⟩:=h
    simp only[this,den,ax]
    rfl
   ·cases h
end
end Go.Sx
namespace Go.Sx
open Go.RowKit
section
variable {P:Program} {X:Cx} {θ:Th} {l:List (Option SV)} {hp:List (Option Vw)} {T:Array Value} {w:World} {gl:List (Nat×Vw)} {base:Nat}
def FO (P:Program) (T:Array Value):ResultVar→Sem Value
 | .tmp t=>pure (T.getD t undef)
 | .cell a t=>do loadVar t (←asAddr (T.getD a undef))
theorem s9 (hh:bm θ base hp w) (hg:vr gl w) (hT:eV θ l T): ∀ {rs:List ResultVar} {vs:List SV},xG gl P hp l rs=some vs→
  (rs.mapM (FO P T)).run P w= .ok (ax θ vs) w
 |[],vs,h=>by simp only[xG,Option.some.injEq]at h;subst h;rfl
 | .tmp t::r,vs,h=>by
   simp only[xG]at h
   split at h
   ·rename_i v vs' h1 h2
    cases h
    have h3:=hT.2 t v h1
    have h4:=s9 hh hg hT h2
    simp only[List.mapM_cons,FO,Sem.run_bind,Sem.run_pure,Result.andThen_ok,h4,Array.getD_eq_getD_getElem?,h3,Option.getD_some,ax]
   ·cases h
 | .cell a t::r,vs,h=>by
   simp only[xG]at h
   split at h
   ·rename_i x ag n h1 hag hsz
    split at h
    ·rename_i cs vs' hc h2
     split at h
     ·rename_i v hm
      cases h
      obtain⟨hl,ad,hd,hsp,hcell⟩:=rR (θ:=θ) (base:=base) hc trivial hh hg (Nat.succ_pos _)
      have hrun:=qa (P:=P) (w:=w) (θ:=θ) hag (by rw[hl];exact hsz) hm hsp hcell
      have h3:=hT.2 a x h1
      have h4:=s9 hh hg hT h2
      rw[hd]at h3
      simp only[List.mapM_cons,FO,Sem.run_bind,Array.getD_eq_getD_getElem?,h3,Option.getD_some,asAddr,Sem.run_pure,Result.andThen_ok,hrun,h4,ax]
     ·cases h
    ·cases h
   ·cases h
theorem rA {fn:Func} {vs:List SV} (hh:bm θ base hp w) (hg:vr gl w) (hT:eV θ l T) (h:xG gl P hp l fn.results.toList=some vs):(results fn T).run P w= .ok (den θ (DM vs)) w:=by
 have h1:=s9 (P:=P) hh hg hT h
 have e:results fn T=(do let vs←fn.results.mapM (FO P T);pure (if h:vs.size=1 then vs[0]else .tuple vs)):=by
  unfold results
  congr 1
 rw[e,Array.mapM_eq_mapM_toList]
 simp only[Sem.run_bind,Sem.run_map,h1,Result.andThen_ok,Sem.run_pure]
 match vs with
 |[]=>rfl
 |[v]=>rfl
 |v::u::r=>simp[DM,ax,den]
theorem er {rx:Rx} (hrx:rx.rd=none) {fn:FuncId} {todo:List Item} (htodo:todo=[]∨ ∃ k,todo= .code .ret::k) (cs:List Frame):
  step P (lone (au rx fn T todo) cs w)= .next (lone {au rx fn T todo with mode:= .returning} cs w):=by
 rcases htodo with rfl|⟨k,rfl⟩
 ·exact stepR_end hrx
 ·exact stepR_ret hrx
theorem jL {fr:iD} {v:SV} (hds:fr.rx.ds=[]) (hdf:fr.rx.df=false) (hh:bm θ base hp w) (hg:vr gl w) (hT:eV θ fr.tmps T) (h:Ce P gl hp fr=some v):({au fr.rx fr.fn T fr.todo with mode:= .returning}:Frame).leaving P w (.returned (den θ v)):=by
 unfold Ce at h
 split at h
 ·rename_i fn hf
  split at h
  ·rename_i vs hr
   cases h
   exact⟨rfl,hds,(by show cond fr.rx.df CallKind.deferred CallKind.normal=CallKind.normal;rw[hdf];rfl),fn,hf,rA hh hg hT hr⟩
  ·cases h
 ·cases h
theorem Il {fr cl cl':iD} {bo:List iD} {v:SV} (hrd:fr.rx.rd=none) (hds:fr.rx.ds=[]) (hdf:fr.rx.df=false) (htodo:fr.todo=[]∨ ∃ k,fr.todo= .code .ret::k) (hv:Ce X.P X.gl hp fr=some v) (hc:I_ cl v=some cl') (hk:Ok X ⟨cl'::bo,hp⟩):
  Ok X ⟨fr::cl::bo,hp⟩:=by
 refine Ok.sk (c':=⟨cl'::bo,hp⟩) (Nat.le_refl _) (fun θ m ms w hh=> ?_) hk
 obtain⟨T,rfl,hpre,hrest⟩:=hh.pre
 obtain⟨hh0,hT0⟩:=hpre.inv θ (az.refl _ _)
 cases hrest θ (az.refl _ _)with
 | @cons _ _ cm cms h1 h2=>
   obtain⟨T1,rfl,hT1⟩:=h1
   have hleave:=jL (P:=X.P) hds hdf hh0 hpre.gX hT0 hv
   unfold I_ at hc
   split at hc
   ·rename_i ops i rest k htd
    split at hc
    ·rename_i o ho
     cases hc
     have hfin:(au cl.rx cl.fn T1 cl.todo).finish (den θ v)=au cl.rx cl.fn ((Act.mk T1 []).put o.dst (den θ v)).tmps (.inRegion ops rest::k):=by
      rw[htd];exact il ho
     refine⟨_,cms,w,fun _=>⟨none,0,0⟩, .head (er hrd htodo _) (.one (step_leave_returned hleave)),Below.refl _ _,fun θ' hs _=>⟨(hpre.inv θ' hs).1, ?_⟩⟩
     have hr':=hrest θ' hs
     cases hr' with
     |cons h1' h2'=>
      obtain⟨T',he,hT'⟩:=h1'
      have:T'=T1:=by have:=congrArg Frame.tmps he;simpa[au,Frame.atR]using this.symm
      subst this
      have hleave':=jL (P:=X.P) hds hdf (hpre.inv θ' hs).1 hpre.gX (hpre.inv θ' hs).2 hv
      have hveq:den θ v=den θ' v:=by
       obtain⟨-, -, -,fn,hf,hr⟩:=hleave
       obtain⟨-, -, -,fn',hf',hr'⟩:=hleave'
       simp_all
      exact .cons ⟨_,hfin,hT'.set hveq⟩ h2'
    ·cases hc
   ·cases hc
theorem eC.ew {σ:Nat→Nat} {a:Addr} {j:Nat} {cs:List SV} (h:eC (fun t=>θ (σ t)) w a j cs):eC θ w a j (dU σ cs):=by
 intro k v hk
 rw[iJ,List.getElem?_map]at hk
 cases hc:cs[k]? with
 |none=>simp[hc]at hk
 |some u=>
  simp[hc]at hk
  subst hk
  rw[gZ]
  exact h k u hc
theorem Bl (σ:Nat→Nat) (v:SV):one (ew σ v)=one v:=by cases v<;>rfl
theorem aX.ew {σ:Nat→Nat} {d:Ad} {v:Vw} {b:Nat} (h:aX (fun t=>θ (σ t)) b w d v) (hb:base≤b):aX θ base w d (v.ew σ):=by
 cases v with
 |box o cs=>
  refine⟨fun hn=> ?_,fun ho=> ?_⟩
  ·obtain⟨a,ha,hl⟩:=h.1 (by rintro rfl;exact hn rfl);exact⟨a,ha,hl.ew⟩
  ·obtain⟨b',h1,h2,h3⟩:=h.2 ho;exact⟨b',h1,by omega,by rw[gU];exact h3⟩
 |row o el n sz f=>
  obtain⟨h1,h2,h3,h4,h5,h6⟩:=h
  refine⟨h1,h2,h3,fun i hi=>⟨by rw[gU];exact(h4 i hi).1, ?_⟩,fun a ha i hi=>(h5 a ha i hi).ew,fun ho=> ?_⟩
  ·have:=(h4 i hi).2
   rw[List.all_eq_true]at this⊢
   intro x hx
   replace hx:x∈dU σ (f i):=hx
   rw[iJ,List.mem_map]at hx
   grind [Bl]
  grind
 |map o k v f st=>obtain⟨b',h1,h2,h3⟩:=h;exact⟨b',h1,fun ho=>Nat.le_trans hb (h2 ho),h3⟩
 |obj o l x0=>obtain⟨b',h1,h2,h3⟩:=h;exact⟨b',h1,fun ho=>Nat.le_trans hb (h2 ho),h3⟩
theorem aX.ro {d:Ad} {v:Vw} {b:Nat} (h:aX θ b w d v):aX θ base w d v.ro:=by
 cases v with
 |box o cs=>exact⟨h.1,fun h=>by cases h⟩
 |row o el n sz f=>
  obtain⟨h1,h2,h3,h4,h5,h6⟩:=h
  exact⟨h1,h2,h3,h4,h5,fun h=>by cases h⟩
 |map o k v f st=>obtain⟨b',h1,h2,h3⟩:=h;exact⟨b',h1,(fun h=>by cases h),h3⟩
 |obj o l x0=>obtain⟨b',h1,h2,h3⟩:=h;exact⟨b',h1,(fun h=>by cases h),h3⟩
theorem wy (σ:Nat→Nat) (v:Vw):(v.ew σ).own=v.own:=by cases v<;>rfl
theorem xD (σ:Nat→Nat) (v:Vw):(v.ew σ).live↔v.live:=by
 cases v with
 |box o cs=>simp only[Vw.ew,Vw.live];cases cs<;>simp[dU]
 |row o el n sz f=>exact Iff.rfl
 |map o k v f st=>exact Iff.rfl
 |obj o l x0=>exact Iff.rfl
theorem C9 (v:Vw):v.ro.own=false:=by cases v<;>rfl
theorem BW {σ:List Nat} {b:Nat} (h:bm θ base hp w):bm (fun k=>θ (back σ k)) b (qZ σ hp) w:=by
 have key: ∀ k v,(qZ σ hp)[k]? =some (some v)→k<σ.length∧ ∃ u,bL hp (σ.getD k 0)=some u∧v=(u.ew (inv σ)).ro:=fun k v hk=>by
  unfold qZ at hk
  rw[List.getElem?_map]at hk
  cases hs:σ[k]? with
  |none=>simp[hs]at hk
  |some t=>
   simp[hs]at hk
   grind
 refine⟨fun k v hk=> ?_,fun t t' v v' ht ht' hne ho=> ?_⟩
 ·obtain⟨hlt,u,hu,rfl⟩:=key k v hk
  have hb:back σ k=σ.getD k 0:=by unfold back;rw[if_pos hlt]
  have h1:=h.vw _ _ (aN hu)
  show aX _ _ _ (θ (back σ k)) _
  rw[hb]
  refine aX.ro (b:=base) ?_
  refine aX.ew (b:=base) ?_ (Nat.le_refl _)
  have e:(fun t=>θ (back σ (inv σ t)))=θ:=funext fun t=>by rw[uC]
  simp only[e]
  exact h1
 grind [C9]
theorem bm.join {σ:List Nat} {new hp0:List (Option Vw)} {w':World} (h:bm θ base hp w) (hsz:base≤w.heap.size) (hb:Below w.heap.size w w') (hl:hp0.length=σ.length) (hn:bm (fun k=>θ (fwd σ hp.length k)) w.heap.size (hp0++new) w') (hok:iN new=true):
  bm θ base (hp++new.map fun x=>x.map (Vw.ew (fwd σ hp.length))) w':=by
 have h':=h.below hb
 have key: ∀ t x,(hp++new.map fun x=>x.map (Vw.ew (fwd σ hp.length)))[t]? =some (some x)→(hp[t]? =some (some x)∧t<hp.length)∨
   ∃ k u,t=hp.length+k∧(hp0++new)[σ.length+k]? =some (some u)∧x=u.ew (fwd σ hp.length)∧u.own=true:=by
  intro t x ht
  rw[List.getElem?_append]at ht
  split at ht
  ·simp_all
  ·rename_i hge
   rw[List.getElem?_map]at ht
   cases hk:new[t-hp.length]? with
   |none=>simp[hk]at ht
   |some y=>
    simp[hk]at ht
    obtain⟨u,rfl,rfl⟩:=ht
    refine .inr ⟨t-hp.length,u,by omega, ?_,rfl, ?_⟩
    ·grind
    ·have:=List.all_eq_true.1 hok (some u) (List.mem_of_getElem? hk)
     exact this
 have hf: ∀ k,fwd σ hp.length (σ.length+k)=hp.length+k:=fun k=>by unfold fwd;rw[if_neg (by omega)];omega
 refine⟨fun t x ht=> ?_,fun t t' x x' ht ht' hne ho hl' a a' ha ha'=> ?_⟩
 ·rcases key t x ht with⟨h1, -⟩|⟨k,u,rfl,h1,rfl, -⟩
  ·exact h'.vw t x h1
  ·have:=hn.vw _ _ h1
   simp only[hf]at this
   exact this.ew hsz
 ·rcases key t x ht with⟨h1,h2⟩|⟨k,u,rfl,h1,rfl,hu⟩<;>rcases key t' x' ht' with⟨h3,h4⟩|⟨k',u',rfl,h3,rfl,hu'⟩
  ·exact h'.ne t t' x x' h1 h3 hne ho hl' a a' ha ha'
  ·have hlt:=(h.vw t x h1).lt ha (.inl ho)
   have hge:w.heap.size≤a'.block:=by
    have h5:=hn.vw _ _ h3
    simp only[hf]at h5
    cases u' with
    |box o cs=>obtain⟨b,e1,e2, -⟩:=h5.2 hu';rw[ha']at e1;cases e1;exact e2
    |row o el n sz f=>
     rcases h5.2.2.2.2.2 hu' with e|⟨b,c,e1,e2, -⟩
     all_goals grind
    |map o k v f st=>obtain⟨b,e1,e2, -⟩:=h5;rw[ha']at e1;cases e1;exact e2 hu'
    |obj o l x0=>obtain⟨b,e1,e2, -⟩:=h5;rw[ha']at e1;cases e1;exact e2 hu'
   omega
  ·have hlt:=(h.vw t' x' h3).lt ha' hl'
   have hge:w.heap.size≤a.block:=by
    have h5:=hn.vw _ _ h1
    simp only[hf]at h5
    cases u with
    |box o cs=>obtain⟨b,e1,e2, -⟩:=h5.2 hu;rw[ha]at e1;cases e1;exact e2
    |row o el n sz f=>
     rcases h5.2.2.2.2.2 hu with e|⟨b,c,e1,e2, -⟩
     all_goals grind
    |map o k v f st=>obtain⟨b,e1,e2, -⟩:=h5;rw[ha]at e1;cases e1;exact e2 hu
    |obj o l x0=>obtain⟨b,e1,e2, -⟩:=h5;rw[ha]at e1;cases e1;exact e2 hu
   omega
  ·refine hn.ne _ _ u u' h1 h3 (by omega) hu (hl'.imp (fun _=>hu') (fun h=>(xD _ _).1 h)) a a' ?_ ?_
   all_goals simp_all
theorem Gv {fr:iD} {bo:List iD} {ops:Array Oper} {i:Nat} {rest:List Nat} {k:List Item} {o:Oper} {ps qs:List Prop} {hs hs1 hs2:List Hint} {f:FuncId} {args:List SV} {σ:List Nat} {res:SV} {new:List (Option Vw)}
  (htd:fr.todo= .inRegion ops (i::rest)::k) (ho:ops[i]? =some o) (hg:fN ops fr.tmps hs o=some (ps,hs1,true)) (hop:p0 X.P X.gl fr.tmps hp hs1 o.op=some (qs,hs2, .enter f args)) (hps:bE ps) (hqs:bE qs)
  (hcall:ab X.P X.gl f (dU (inv σ) args) (qZ σ hp) res new) (hnew:iN new=true) (hσ:σ.all (fun t=>decide (t<hp.length))=true)
  (hk:Ok X ⟨{fr with tmps:=dX fr.tmps o.dst (ew (fwd σ hp.length) res),todo:= .inRegion ops rest::k}::bo,hp++new.map fun x=>x.map (Vw.ew (fwd σ hp.length))⟩):
  Ok X ⟨fr::bo,hp⟩:=by
 refine Ok.sk (c':=⟨{fr with tmps:=dX fr.tmps o.dst (ew (fwd σ hp.length) res),todo:= .inRegion ops rest::k}::bo,hp++new.map fun x=>x.map (Vw.ew (fwd σ hp.length))⟩) (by simp) (fun θ m ms w hh=> ?_) hk
 obtain⟨T,rfl,hpre,hrest⟩:=hh.pre
 obtain⟨hh0,hT0⟩:=hpre.inv θ (az.refl _ _)
 obtain⟨as,hrun,has⟩:=cS (ds:=[]) hpre hop hqs
 have hw:=cK hg hps hT0
 have hlen:(qZ σ hp).length=σ.length:=by simp[qZ]
 have hσ': ∀ k,k<σ.length→σ.getD k 0<hp.length:=fun k hk=>by
  simp_all
 have e1:ax (fun k=>θ (back σ k)) (dU (inv σ) args)=as:=by
  rw[fA,has θ (az.refl _ _)]
  congr 1
  funext t
  rw[uC]
 have hc:=hcall (fun k=>θ (back σ k)) w (BW hh0) hpre.gX
 rw[e1]at hc
 obtain⟨e,w',fr',⟨hbel,r,rfl,nw,hnw⟩,hcomes, -,hleave⟩:=hc (au fr.rx fr.fn T fr.todo::(ms++X.cs))
 have hfin:(au fr.rx fr.fn T fr.todo).finish r=au fr.rx fr.fn ((Act.mk T []).put o.dst r).tmps (.inRegion ops rest::k):=by
  rw[htd];exact il ho
 have hst:step X.P (lone (au fr.rx fr.fn T fr.todo) (ms++X.cs) w)= .next (lone (Frame.enter X.P f as.toArray .normal) (au fr.rx fr.fn T fr.todo::(ms++X.cs)) w):=by
  rw[htd]
  exact fv ho hw hrun
 refine⟨_,ms,w',nw, .head hst (Steps.trans hcomes (.one (step_leave_returned hleave))),hbel.mono hpre.sz,fun θ' hs hn=> ?_⟩
 obtain⟨hh1,hT1⟩:=hpre.inv θ' hs
 have hsame:az (qZ σ hp).length (fun k=>θ (back σ k)) (fun k=>θ' (fwd σ hp.length k)):=fun k hk=>by
  rw[hlen]at hk
  simp only[back,fwd,hk,if_true]
  exact hs _ (hσ' k hk)
 obtain⟨hr,hh2⟩:=hnw _ hsame (fun k hk=>by
  simp only[hlen,fwd,show¬σ.length+k<σ.length by omega,if_false]
  rw[show hp.length+(σ.length+k-σ.length)=hp.length+k by omega]
  exact hn k (by simpa using hk))
 refine⟨hh1.join hpre.sz hbel hlen hh2 hnew, ?_⟩
 exact .cons ⟨_,hfin,hT1.set (by rw[hr,gZ])⟩ (hrest θ' hs)
end
end Go.Sx
namespace Go.Sx
open Go.RowKit
def eh (P:Program) (A:Nat→Prop) (θ:Th) (rx:Rx) (fn:FuncId) (T:Array Value) (w:World) (ops:Array Oper) (i:Nat) (o:Oper) (hp:List (Option Vw)) (rest:List Nat) (k:List Item) (cs:List Frame) (v:SV) (news:List Vw):Prop:=
 ∃ r w', ∃ nw:Nat→Ad,Steps P (lone (au rx fn T (.inRegion ops (i::rest)::k)) cs w) (lone (au rx fn ((Act.mk T []).put o.dst r).tmps (.inRegion ops rest::k)) cs w')∧Below w.heap.size w w'∧
   ∀ θ',bX A θ θ'→(∀ k,k<news.length→θ' (hp.length+k)=nw k)→r=den θ' v∧(∀ k x,news[k]? =some x→x.own=true∧aX θ' w.heap.size w' (nw k) x)∧
     ∀ (k k':Nat) (x x':Vw),news[k]? =some x→news[k']? =some x'→k≠k'→ ∀ a a',(nw k).base=some a→(nw k').base=some a'→a.block≠a'.block
section
variable {P:Program} {gl:List (Nat×Vw)} {base:Nat} {A:Nat→Prop} {θ:Th} {l:List (Option SV)} {hp:List (Option Vw)} {T:Array Value} {w:World} {rx:Rx} {fn:FuncId} {ops:Array Oper} {i:Nat} {o:Oper} {rest:List Nat} {k:List Item} {cs:List Frame}
theorem fi {r:Value} {w':World} (ho:ops[i]? =some o) (hw:Region.wanted o (yielded ops T)=true) (hr:(execOp (Act.mk T []).eval o).run P w= .ok (.value r) w') (rest:List Nat) (k:List Item) (cs:List Frame):
  Steps P (lone (au rx fn T (.inRegion ops (i::rest)::k)) cs w) (lone (au rx fn ((Act.mk T []).put o.dst r).tmps (.inRegion ops rest::k)) cs w'):=by
 exact .one (eu ho hw hr)
theorem eh.hZ {v:SV} {vw:Vw} (hI:gM A P gl base θ l hp T w) (ho:ops[i]? =some o) (hw:Region.wanted o (yielded ops T)=true) (h:pS base l hp T w ((execOp (Act.mk T []).eval o).run P w) v vw) (hown:vw.own=true):
  eh P A θ rx fn T w ops i o hp rest k cs v [vw]:=by
 obtain⟨r,w',d,hr,hb,hn,hv⟩:=h
 refine⟨r,w',fun _=>d,fi ho hw hr rest k cs,hb,fun θ' hs hnew=> ?_⟩
 obtain⟨hh,hT⟩:=hI.inv θ' hs
 obtain⟨h1,h2⟩:=hv θ' hh hT (hnew 0 (by simp))
 grind
theorem eh.Cp {v:SV} (hI:gM A P gl base θ l hp T w) (ho:ops[i]? =some o) (hw:Region.wanted o (yielded ops T)=true) (h: ∀ θ',bm θ' base hp w→eV θ' l T→(execOp (Act.mk T []).eval o).run P w= .ok (.value (den θ' v)) w):
  eh P A θ rx fn T w ops i o hp rest k cs v []:=by
 have h0:=h θ (hI.inv θ (bX.refl _ _)).1 (hI.inv θ (bX.refl _ _)).2
 refine⟨den θ v,w,fun _=>⟨none,0,0⟩,fi ho hw h0 rest k cs,Below.refl _ _,fun θ' hs _=>⟨?_,fun k x hk=>by simp at hk,fun k k' x x' hk=>by simp at hk⟩⟩
 have h1:=h θ' (hI.inv θ' hs).1 (hI.inv θ' hs).2
 simp_all
theorem pj: ∀ {new:List (Option Vw)},iN new=true→ ∀ (k:Nat) (x:Vw),(new.filterMap id)[k]? =some x→new[k]? =some (some x)∧x.own=true
 |[],_,k,x,h=>by simp at h
 |none::r,hn,k,x,h=>by simp[iN]at hn
 |some v::r,hn,k,x,h=>by
  have hv:v.own=true∧iN r=true:=by simpa[iN]using hn
  simp only[List.filterMap_cons,id]at h
  cases k with
  |zero=>simp at h;subst h;exact⟨rfl,hv.1⟩
  |succ k=>simp only[List.getElem?_cons_succ]at h⊢;exact pj hv.2 k x h
theorem pk: ∀ {new:List (Option Vw)},iN new=true→(new.filterMap id).length=new.length
 |[],_=>rfl
 |none::r,hn=>by simp[iN]at hn
 |some v::r,hn=>by
  have hv:v.own=true∧iN r=true:=by simpa[iN]using hn
  simp[pk hv.2]
theorem eh.F4 {qs:List Prop} {hs hs2:List Hint} {f:FuncId} {args:List SV} {σ:List Nat} {res:SV} {new:List (Option Vw)} (hI:gM A P gl base θ l hp T w) (ho:ops[i]? =some o) (hw:Region.wanted o (yielded ops T)=true)
  (hop:p0 P gl l hp hs o.op=some (qs,hs2, .enter f args)) (hqs:bE qs) (hcall:ab P gl f (dU (inv σ) args) (qZ σ hp) res new) (hnew:iN new=true) (hkn: ∀ t,t∈σ→A t):
  eh P A θ rx fn T w ops i o hp rest k cs (ew (fwd σ hp.length) res) ((new.filterMap id).map (Vw.ew (fwd σ hp.length))):=by
 obtain⟨hh0,hT0⟩:=hI.inv θ (bX.refl _ _)
 obtain⟨as,hrun,has⟩:=cS (ds:=[]) hI hop hqs
 have hlen:(qZ σ hp).length=σ.length:=by simp[qZ]
 have e1:ax (fun k=>θ (back σ k)) (dU (inv σ) args)=as:=by
  rw[fA,has θ (bX.refl _ _)]
  congr 1
  funext t
  rw[uC]
 have hc:=hcall (fun k=>θ (back σ k)) w (BW hh0) hI.gX
 rw[e1]at hc
 obtain⟨e,w',fr',⟨hbel,r,rfl,nw,hnw⟩,hcomes, -,hleave⟩:=hc (au rx fn T (.inRegion ops (i::rest)::k)::cs)
 have hfin:(au rx fn T (.inRegion ops (i::rest)::k)).finish r=au rx fn ((Act.mk T []).put o.dst r).tmps (.inRegion ops rest::k):=by
  exact il ho
 have hst:step P (lone (au rx fn T (.inRegion ops (i::rest)::k)) cs w)= .next (lone (Frame.enter P f as.toArray .normal) (au rx fn T (.inRegion ops (i::rest)::k)::cs) w):=
  fv ho hw hrun
 have hlst:=step_leave_returned (c:=au rx fn T (.inRegion ops (i::rest)::k)) (cs:=cs) hleave
 rw[hfin]at hlst
 refine⟨r,w',nw, .head hst (Steps.trans hcomes (.one hlst)),hbel,fun θ' hs hn=> ?_⟩
 have hfl:=pk hnew
 have hsame:az (qZ σ hp).length (fun k=>θ (back σ k)) (fun k=>θ' (fwd σ hp.length k)):=fun k hk=>by
  simp only[hlen]at hk
  simp only[back,fwd,hk,if_true]
  refine hs _ (hkn _ ?_)
  simp_all
 obtain⟨hr,hh2⟩:=hnw _ hsame (fun k hk=>by
  simp only[hlen,fwd,show¬σ.length+k<σ.length by omega,if_false]
  rw[show hp.length+(σ.length+k-σ.length)=hp.length+k by omega]
  exact hn k (by simp[hfl];exact hk))
 have hf: ∀ k,fwd σ hp.length (σ.length+k)=hp.length+k:=fun k=>by unfold fwd;rw[if_neg (by omega)];omega
 have key: ∀ (k:Nat) (x:Vw),((new.filterMap id).map (Vw.ew (fwd σ hp.length)))[k]? =some x→ ∃ u,(qZ σ hp++new)[σ.length+k]? =some (some u)∧x=u.ew (fwd σ hp.length)∧u.own=true∧θ' (fwd σ hp.length (σ.length+k))=nw k:=fun k x hk=>by
  grind [pj]
 refine⟨by rw[hr,gZ],fun k x hk=> ?_,fun k k' x x' hk hk' hne a a' ha ha'=> ?_⟩
 ·obtain⟨u,h1,rfl,h3,h4⟩:=key k x hk
  have h5:=hh2.vw _ _ h1
  simp only[h4]at h5
  exact⟨by rw[wy];exact h3,h5.ew (Nat.le_refl _)⟩
 ·obtain⟨u,h1,rfl,h3,h4⟩:=key k x hk
  obtain⟨u',h1',rfl,h3',h4'⟩:=key k' x' hk'
  exact hh2.ne _ _ u u' h1 h1' (by omega) h3 (.inl h3') a a' (by simp only[h4];exact ha) (by simp only[h4'];exact ha')
def pq (P:Program) (base:Nat) (A:Nat→Prop) (θ:Th) (rx:Rx) (fn:FuncId) (T:Array Value) (w:World) (ops:Array Oper) (i:Nat) (o:Oper) (hp:List (Option Vw)) (rest:List Nat) (k:List Item) (cs:List Frame) (v:SV) (news:List Vw) (oV:Option Nat):Prop:=
 ∃ r w', ∃ nw:Nat→Ad,Steps P (lone (au rx fn T (.inRegion ops (i::rest)::k)) cs w) (lone (au rx fn ((Act.mk T []).put o.dst r).tmps (.inRegion ops rest::k)) cs w')∧Below base w w'∧
   (∀ j,j<w.heap.size→(∀ t a,oV=some t→(θ t).base=some a→a.block≠j)→w'.heap[j]? =w.heap[j]?)∧(∀ t,oV=some t→ ∃ x,hp[t]? =some (some x)∧x.own=true)∧
   ∀ θ',bX A θ θ'→(∀ k,k<news.length→θ' (hp.length+k)=nw k)→r=den θ' v∧
     (∀ k x,news[k]? =some x→aX θ' base w' (nw k) x∧((x.own=true∧ ∀ a,(nw k).base=some a→w.heap.size≤a.block∨ ∃ t a',oV=some t∧(θ t).base=some a'∧a'.block=a.block)∨
      (x.own=false∧ ∃ s y,hp[s]? =some (some y)∧y.own=false∧(x.live→y.live∧ ∀ a,(nw k).base=some a→ ∃ a',(θ s).base=some a'∧a'.block=a.block))))∧
     ∀ (k k':Nat) (x x':Vw),news[k]? =some x→news[k']? =some x'→k≠k'→ ∀ a a',(nw k).base=some a→(nw k').base=some a'→a.block≠a'.block
theorem aX.ge {d:Ad} {x:Vw} {a:Addr} {b:Nat} (h:aX θ b w d x) (ho:x.own=true) (ha:d.base=some a):b≤a.block:=by
 cases x with
 |box o cs=>obtain⟨b',e1,e2, -⟩:=h.2 ho;rw[ha]at e1;cases e1;exact e2
 |row o el n sz f=>
  rcases h.2.2.2.2.2 ho with e|⟨b',c,e1,e2, -⟩
  all_goals grind
 |map o k v f st=>obtain⟨b',e1,e2, -⟩:=h;rw[ha]at e1;cases e1;exact e2 ho
 |obj o l x0=>obtain⟨b',e1,e2, -⟩:=h;rw[ha]at e1;cases e1;exact e2 ho
theorem aX.kept {d:Ad} {x:Vw} {w':World} {ok:Nat→Prop} (hx:aX θ base w d x) (hg: ∀ j,j<w.heap.size→ok j→w'.heap[j]? =w.heap[j]?) (hne:(x.own=true∨x.live)→ ∀ a,d.base=some a→ok a.block):aX θ base w' d x:=by
 have hL: ∀ {a:Addr} {j:Nat} {cs:List SV},(x.own=true∨x.live)→d.base=some a→eC θ w a j cs→eC θ w' a j cs:=fun {a} {j} {cs} hl ha hlie k v hk=>by
  have hlt:=World.block_lt_of_cell? w _ (hlie k v hk)
  rw[←hlie k v hk]
  exact World.cell?_of_block (hg _ hlt (hne hl a ha))
 have hB: ∀ {b:Nat} {y:Obj},x.own=true→d.base=some ⟨b,0,none⟩→w.heap[b]? =some y→w'.heap[b]? =some y:=fun hl ha hb=>by
  grind
 cases x with
 |box o cs=>
  refine⟨fun hn=> ?_,fun ho'=> ?_⟩
  ·obtain⟨a,ha,hlie⟩:=hx.1 hn;exact⟨a,ha,hL (.inr hn) ha hlie⟩
  ·obtain⟨b,h1,h2,c,el,h3,h4⟩:=hx.2 ho';exact⟨b,h1,h2,c,el,hB ho' h1 h3,h4⟩
 |row o el n sz f=>
  obtain⟨h1,h2,h3,hf,h4,h5⟩:=hx
  refine⟨h1,h2,h3,hf,fun a ha i hi=> ?_,fun ho'=> ?_⟩
  ·rcases Nat.eq_zero_or_pos sz with h0|h0
   ·have:=(hf i hi).1
    rw[h0]at this
    rw[List.length_eq_zero_iff.1 this]
    intro k v hk;simp at hk
   ·exact hL (.inr ⟨by omega,h0⟩) ha (h4 a ha i hi)
  ·rcases h5 ho' with h|⟨b,c,e1,e2,e3,e4⟩
   ·exact .inl h
   ·exact .inr ⟨b,c,e1,e2,hB ho' e1 e3,e4⟩
 |map o k v f st=>
  obtain⟨b,h1,h2,es,c,h3,h4⟩:=hx
  exact⟨b,h1,h2,es,c,by rw[hg _ (Array.getElem?_eq_some_iff.1 h3).1 (hne (.inr trivial) _ h1)];exact h3,h4⟩
 |obj o l x0=>
  obtain⟨b,h1,h2,h3,h4⟩:=hx
  exact⟨b,h1,h2,h3,by rw[hg _ (Array.getElem?_eq_some_iff.1 h4).1 (hne (.inr trivial) _ h1)];exact h4⟩
theorem eh.lift {v:SV} {news:List Vw} (hsz:base≤w.heap.size) (h:eh P A θ rx fn T w ops i o hp rest k cs v news):pq P base A θ rx fn T w ops i o hp rest k cs v news none:=by
 obtain⟨r,w',nw,hst,hbel,hfin⟩:=h
 refine⟨r,w',nw,hst,hbel.mono hsz,fun j hj _=>hbel.block j hj,fun t ht=>(by cases ht),fun θ' hs hn=> ?_⟩
 obtain⟨h1,h2,h3⟩:=hfin θ' hs hn
 exact⟨h1,fun k x hk=>⟨(h2 k x hk).2.mono hsz, .inl ⟨(h2 k x hk).1,fun a ha=> .inl ((h2 k x hk).2.ge (h2 k x hk).1 ha)⟩⟩,h3⟩
theorem pq.Cq {t el n m tg tx:Nat} {s x:Operand} {i':TypeInfo} {z:Value} {ox:Bool} {elx:TypeId} {f f' f'':Nat→List SV} (hI:gM A P gl base θ l hp T w) (hoi:ops[i]? =some o) (hw:Region.wanted o (yielded ops T)=true)
  (ho:o.op= .call ⟨.builtin .append, #[s,x], #[t,t]⟩) (hu:P.underlying t=some (.slice el)) (hi:P.info? el=some i') (hz:i'.zero=some z) (hzs:z.cells.size=i'.size) (h0:0<i'.size) (hb0:1≤i'.bytes)
  (hs:ev l s=some (.sl tg n)) (hx:ev l x=some (.sl tx m)) (hts:bL hp tg=some (.row true el n i'.size f)) (htx:bL hp tx=some (.row ox elx m i'.size f'))
  (hb:(n+m)*i'.bytes≤140737488355328) (hf: ∀ k,k<n+m→f'' k=if k<n then f k else f' (k-n)):
  pq P base A θ rx fn T w ops i o hp rest k cs (.sl hp.length (n+m)) [.row true el (n+m) i'.size f''] (some tg):=by
 have hA:xj P t el i'.size i'.bytes:=⟨hu,⟨i',z,hi,hz,rfl,rfl,hzs⟩,h0⟩
 have hm:n+m≤maxLen:=by
  have:(n+m)*1≤(n+m)*i'.bytes:=Nat.mul_le_mul_left _ hb0
  unfold maxLen
  omega
 obtain⟨hh0,hT0⟩:=hI.inv θ (bX.refl _ _)
 have htv:=aN hts
 have hxv:=aN htx
 obtain⟨v',w',d',hr,hv',hbel,hkeep,hnew,hvw⟩:=uD (P:=P) (w:=w) (θ:=θ) (ty:=o.type) (f'':=f'') hA hI.sz (hh0.vw tg _ htv) (hh0.vw tx _ hxv) hb hm
 have hrun:(execOp (Act.mk T []).eval o).run P w= .ok (.value v') w':=by
  simp only[execOp,ho,resolve,invoke,builtin,Sem.run_bind,Sem.run_pure,Result.andThen_ok]
  have ea:(#[s,x].map (Act.mk T []).eval)= #[den θ (.sl tg n),den θ (.sl tx m)]:=by
   simp[an hT0 hs,an hT0 hx]
  rw[ea]
  simp only[den]at hr⊢
  rw[hr]
  rfl
 refine⟨v',w',fun _=>d',fi hoi hw hrun rest k cs,hbel,fun j hj hne=>hkeep j hj (fun a ha=>hne tg a rfl ha),fun t' ht'=>(by cases ht';exact⟨_,htv,rfl⟩),fun θ' hsm hn=> ?_⟩
 have hd:=hn 0 (by simp)
 simp only[Nat.add_zero]at hd
 obtain⟨hh,hT⟩:=hI.inv θ' hsm
 have e1:θ' tg=θ tg:=hsm tg (hI.kn tg _ htv)
 have e2:θ' tx=θ tx:=hsm tx (hI.kn tx _ hxv)
 refine⟨by rw[hv'];simp[den,hd],fun k x hk=> ?_,fun k k' x x' hk hk' hne=> ?_⟩
 ·cases k with
  |zero=>
   simp at hk;subst hk
   refine⟨hvw θ' (by rw[←e1];exact hh.vw tg _ htv) (by rw[←e2];exact hh.vw tx _ hxv) hf, .inl ⟨rfl,fun a ha=> ?_⟩⟩
   simp_all
  |succ k=>simp at hk
 grind
theorem pq.of_slice {t el el' n sz tg:Nat} {x:Operand} {lo hi:Option Operand} {f:Nat→List SV} {kk kk':IntKind} {a b:Int} (hI:gM A P gl base θ l hp T w) (hoi:ops[i]? =some o) (hw:Region.wanted o (yielded ops T)=true)
  (ho:o.op= .slice t x lo hi none) (hu:P.underlying t=some (.slice el)) (hx:ev l x=some (.sl tg n))
  (ht:bL hp tg=some (.row false el' n sz f)) (hsz:eZ P el=some sz) (ha:(match lo with|some a=>ev l a|none=>some (SV.val (.int .i64 0)))=some (.val (.int kk a))) (hb:(match hi with|some a=>ev l a|none=>some (SV.val (.int .i64 (n:Int))))=some (.val (.int kk' b)))
  (hbn:0≤b∧b≤(n:Int)) (hab:0≤a∧a≤b):
  pq P base A θ rx fn T w ops i o hp rest k cs (.sl hp.length (b.toNat-a.toNat)) [.row false el' (b.toNat-a.toNat) sz (fun k=>f (k+a.toNat))] none:=by
 obtain⟨r,d,hr,hfin⟩:=sY (ds:=[]) hI ho hu hx ht hsz ha hb hbn hab
 refine⟨r,w,fun _=>d,fi hoi hw hr rest k cs,Below.refl _ _,fun _ _ _=>rfl,fun t' ht'=>(by cases ht'),fun θ' hsm hn=> ?_⟩
 have hd:=hn 0 (by simp)
 simp only[Nat.add_zero]at hd
 obtain⟨e1,hh,hsame,hnew',hblk⟩:=hfin θ' hsm hd
 refine⟨e1,fun k x hk=> ?_,fun k k' x x' hk hk' hne=> ?_⟩
 ·cases k with
  |zero=>
   simp at hk;subst hk
   rw[hd]at hnew' hblk
   exact⟨hnew', .inr ⟨rfl,tg,_,aN ht,rfl,fun hl=>⟨⟨by have:=hl.1;omega,hl.2⟩,fun a ha=>hblk hl.1 a ha⟩⟩⟩
  |succ k=>simp at hk
 grind
theorem CV {hs hs':List Hint} {ps:List Prop} {v:SV} {news:List Vw} {oV:Option Nat} (hI:gM A P gl base θ l hp T w) (ho:ops[i]? =some o) (hw:Region.wanted o (yielded ops T)=true)
  (h:KO P gl l hp hs o.op=some (ps,hs',v,news,oV)) (hps:bE ps):
  pq P base A θ rx fn T w ops i o hp rest k cs v news oV:=by
 have hV:(match iH P gl l hp hs o.op with
   |some (ps,hs',v)=>some (ps,hs',v,([]:List Vw),(none:Option Nat))
   |none=>none)=some (ps,hs',v,news,oV)→pq P base A θ rx fn T w ops i o hp rest k cs v news oV:=by
  intro h
  split at h
  ·rename_i ps' hs'' v' hx
   simp only[Option.some.injEq,Prod.mk.injEq]at h
   obtain⟨rfl, -,rfl,rfl,rfl⟩:=h
   exact(eh.Cp hI ho hw (fun θ' hh hT=>AS hx hps hI.gX hh hT)).lift hI.sz
  ·cases h
 have hT0:=(hI.inv θ (bX.refl _ _)).2
 cases hop:o.op<;>rw[hop]at h hV<;>simp only[KO]at h<;>try exact hV h
 case alloc e'=>
  split at h
  ·rename_i i hi
   split at h
   ·rename_i z hz;cases h;exact(eh.hZ hI ho hw (v7 hop hi hz) rfl).lift hI.sz
   ·cases h
  ·cases h
 case box e' x=>
  split at h
  ·rename_i v hv
   split at h
   ·rename_i cs hc;cases h;exact(eh.hZ hI ho hw (BU hop hv hc) rfl).lift hI.sz
   ·cases h
  ·cases h
 case buildSlice t n parts=>
  split at h
  ·rename_i el vs hu hv
   split at h
   ·rename_i i rows hi hr
    split at h
    ·rename_i z f hs'' hz
     split at h
     ·rename_i hq
      simp only[Bool.and_eq_true,beq_iff_eq,decide_eq_true_eq]at hq
      obtain⟨⟨⟨⟨h1,h2⟩,h3⟩,h4⟩,h5⟩:=hq
      cases h
      exact(eh.hZ hI ho hw (Bv hT0 hop hu hi hz h1 rfl h2 h3 hv hr h4 h5 hps.1) rfl).lift hI.sz
     ·cases h
    ·cases h
   ·cases h
  ·cases h
 case makeSlice t x y=>
  split at h
  ·rename_i el k n k' n' hu hx hy
   split at h
   ·rename_i i hi
    split at h
    ·rename_i z hz
     split at h
     ·rename_i hq
      simp only[Bool.and_eq_true,beq_iff_eq,decide_eq_true_eq]at hq
      obtain⟨⟨h1,h2⟩,h3⟩:=hq
      cases h
      obtain⟨rfl,h5,h6,h7, -⟩:=hps
      exact(eh.hZ hI ho hw (yo hT0 hop hu hi hz h1 rfl h2 hx hy h3 h5 h6 h7) rfl).lift hI.sz
     ·cases h
    ·cases h
   ·cases h
  ·cases h
 case slice t x lo hi mx=>
  cases mx with
  |some y=>exact hV h
  |none=>
   simp only at h
   split at h
   ·rename_i el tg n hu hx
    split at h
    ·rename_i el' m sz f s ka a kb b ht hsz ha hb
     split at h
     ·rename_i hq
      rw[beq_iff_eq]at hq
      subst hq
      simp only[Option.some.injEq,Prod.mk.injEq]at h
      obtain⟨rfl, -,rfl,rfl,rfl⟩:=h
      obtain⟨rfl,g1,g2, -⟩:=hps
      grind [pq.of_slice]
     ·cases h
    ·cases h
   ·exact hV h
 case call c=>
  obtain⟨callee,args,ats⟩:=c
  cases callee with
  |invoke r m=>exact hV h
  |builtin b=>
   cases b<;>try exact hV h
   simp only at h
   split at h
   ·rename_i s x t t' ea eb
    split at h
    ·rename_i el ts n tx m f'' hs'' hu hes hex
     split at h
     ·rename_i i' ox elx m' sx f' el' n' ss f hi htx hts
      split at h
      ·rename_i z hz
       split at h
       ·rename_i hq
        simp only[Bool.and_eq_true,beq_iff_eq,decide_eq_true_eq]at hq
        obtain⟨⟨⟨⟨⟨⟨rfl,h2⟩,h3⟩,h4⟩,rfl⟩,rfl⟩,rfl⟩:=hq
        simp only[Option.some.injEq,Prod.mk.injEq]at h
        obtain⟨rfl, -,rfl,rfl,rfl⟩:=h
        obtain⟨rfl,rfl,g3,g4, -⟩:=hps
        have e1:args= #[s,x]:=by cases args;simp_all
        have e2:ats= #[t,t]:=by cases ats;simp_all
        grind [pq.Cq]
       ·cases h
      ·cases h
     ·cases h
    ·cases h
   ·cases h
  |value f=>
   simp only at h
   split at h
   ·exact hV h
   ·rename_i qs σ res new hs'' g as hx
    split at h
    ·rename_i hq
     simp only[Bool.and_eq_true]at hq
     simp only[Option.some.injEq,Prod.mk.injEq]at h
     obtain⟨rfl, -,rfl,rfl,rfl⟩:=h
     obtain⟨h1,h2⟩:=aK hps
     refine(eh.F4 hI ho hw (by rw[hop];exact hx) h1 h2.1 hq.1 (fun t ht=> ?_)).lift hI.sz
     have h3:=List.all_eq_true.1 hq.2 t ht
     simp only[Bool.and_eq_true,decide_eq_true_eq]at h3
     obtain⟨-,h4⟩:=h3
     cases hg:bL hp t with
     |none=>simp[hg]at h4
     |some u=>exact hI.kn t u (aN hg)
    ·cases h
   ·cases h
end
end Go.Sx
