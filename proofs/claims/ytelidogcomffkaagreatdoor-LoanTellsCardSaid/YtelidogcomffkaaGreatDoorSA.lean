/-
SX, first part: a symbolic machine over Go's code: values that may point into views of memory, what a configuration says of a real one, and what one operation does. No program in it: it serves every seat.
-/
import Derived.Below
import Derived.Calls
import Derived.KernelRfl
import Derived.Laws.AppendOwn
import Derived.AtR
import Derived.MapKept
import Derived.Laws.IdiomCopy
import Derived.WalkKit
import Derived.Laws.StructEq
import Derived.Laws.Tables
import Derived.Laws.MakeOwn
import Derived.Maps.AppendAt
import Derived.Laws.AppendOwnNone
set_option linter.unusedSimpArgs false
set_option linter.unusedVariables false
namespace Go.Sx
open Go.RowKit
inductive SV where
 |val (v:Value)
 |ptr (t j:Nat)
 |oE (t:Nat) (i:Int) (j:Nat)
 |qU (g:Nat) (sz:Nat) (i:Int) (j:Nat)
 |sl (t n:Nat)
 |agg (cs:List SV)
 |af (vs:List SV)
 |fn (f:Fn) (first captured:List SV)
 |dZ (t:TypeId) (v:SV)
 |mp (t:Nat)
 deriving Inhabited
structure Ad where
 base:Option Addr
 cap:Nat
 sz:Nat
abbrev Th:=Nat→Ad
def at_ (a:Addr) (j:Nat):Addr:=⟨a.block,a.off+j,none⟩
mutual
def den (θ:Th):SV→Value
 | .val v=>v
 | .ptr t j=> .pointer ((θ t).base.map fun a=>at_ a j)
 | .oE t i j=> .pointer ((θ t).base.map fun a=>at_ a (i.toNat*(θ t).sz+j))
 | .qU g sz i j=> .pointer (some ⟨g,i.toNat*sz+j,none⟩)
 | .sl t n=> .slice (θ t).base n (θ t).cap
 | .agg cs=> .agg (ax θ cs).toArray
 | .af vs=> .tuple (ax θ vs).toArray
 | .fn f a b=> .func f (ax θ a).toArray (ax θ b).toArray
 | .dZ t v=> .iface t (den θ v)
 | .mp t=> .map ((θ t).base.map (·.block))
def ax (θ:Th):List SV→List Value
 |[]=>[]
 |v::vs=>den θ v::ax θ vs
end
theorem aC (θ:Th): ∀ l,ax θ l=l.map (den θ)
 |[]=>rfl
 |v::vs=>by rw[ax,aC θ vs];rfl
mutual
def ew (σ:Nat→Nat):SV→SV
 | .val v=> .val v
 | .ptr t j=> .ptr (σ t) j
 | .oE t i j=> .oE (σ t) i j
 | .qU g sz i j=> .qU g sz i j
 | .sl t n=> .sl (σ t) n
 | .agg cs=> .agg (dU σ cs)
 | .af vs=> .af (dU σ vs)
 | .fn f a b=> .fn f (dU σ a) (dU σ b)
 | .dZ t v=> .dZ t (ew σ v)
 | .mp t=> .mp (σ t)
def dU (σ:Nat→Nat):List SV→List SV
 |[]=>[]
 |v::vs=>ew σ v::dU σ vs
end
mutual
theorem gZ (θ:Th) (σ:Nat→Nat): ∀ v,den θ (ew σ v)=den (fun t=>θ (σ t)) v
 | .val v=>rfl
 | .ptr t j=>rfl
 | .oE t i j=>rfl
 | .qU g sz i j=>rfl
 | .sl t n=>rfl
 | .agg cs=>by simp only[ew,den,fA θ σ cs]
 | .af cs=>by simp only[ew,den,fA θ σ cs]
 | .fn f a b=>by simp only[ew,den,fA θ σ a,fA θ σ b]
 | .dZ t v=>by simp only[ew,den,gZ θ σ v]
 | .mp t=>rfl
theorem fA (θ:Th) (σ:Nat→Nat): ∀ l,ax θ (dU σ l)=ax (fun t=>θ (σ t)) l
 |[]=>rfl
 |v::vs=>by simp only[dU,ax,gZ θ σ v,fA θ σ vs]
end
theorem iJ (σ:Nat→Nat): ∀ l,dU σ l=l.map (ew σ)
 |[]=>rfl
 |v::vs=>by rw[dU,iJ σ vs];rfl
theorem gU (σ:Nat→Nat) (l:List SV):(dU σ l).length=l.length:=by rw[iJ];simp
inductive Vw where
 |box (own:Bool) (cs:List SV)
 |row (own:Bool) (el:TypeId) (n sz:Nat) (f:Nat→List SV)
 |map (own:Bool) (k v:IntKind) (f:Int→Int) (st:List (Int×Int))
 |obj (own:Bool) (l:Nat) (o:Obj)
def Vw.own:Vw→Bool
 | .box o _=>o
 | .row o _ _ _ _=>o
 | .map o _ _ _ _=>o
 | .obj o _ _=>o
def Vw.live:Vw→Prop
 | .box _ cs=>cs≠[]
 | .row _ _ n sz _=>0<n∧0<sz
 | .map _ _ _ _ _=>True
 | .obj _ _ _=>True
def Vw.ew (σ:Nat→Nat):Vw→Vw
 | .box o cs=> .box o (dU σ cs)
 | .row o el n sz f=> .row o el n sz (fun i=>dU σ (f i))
 | .map o k v f st=> .map o k v f st
 | .obj o l x=> .obj o l x
def Vw.ro:Vw→Vw
 | .box _ cs=> .box false cs
 | .row _ el n sz f=> .row false el n sz f
 | .map _ k v f st=> .map false k v f st
 | .obj _ l x=> .obj false l x
def one:SV→Bool
 | .agg _=>false
 | .af _=>false
 | .val v=>v.oneCell'
 |_=>true
theorem one_den {θ:Th} {v:SV} (h:one v=true):(den θ v).oneCell'=true:=by
 cases v<;>first|rfl|exact h|(simp[one]at h)
def eC (θ:Th) (w:World) (a:Addr) (j:Nat) (cs:List SV):Prop:=
 ∀ (k:Nat) (v:SV),cs[k]? =some v→w.cell? (at_ a (j+k))=some (den θ v)
def Whole (w:World) (b:Nat) (n:Nat):Prop:= ∃ c el,w.heap[b]? =some (.cells c el (0,0))∧c.size=n
def dF (a:Int):List MapEntry→Option Int
 |[]=>none
 |⟨.int _ b, .int _ x,_⟩::r=>if b=a then some x else dF a r
 |_::r=>dF a r
def uI (es:Array MapEntry) (c:Nat) (k v:IntKind) (f:Int→Int) (st:List (Int×Int)):Prop:=
 MapKept.Stamped es c∧(∀ e∈es.toList, ∃ a x,e.key= .int k a∧e.val= .int v x)∧(∀ a,(dF a es.toList).getD 0=f a)∧ ∀ p∈st, ∃ e∈es.toList,(e.born:Int)=p.1∧e.key= .int k p.2
def KL (w:World) (b:Nat) (k v:IntKind) (f:Int→Int) (st:List (Int×Int)):Prop:=
 ∃ es c,w.heap[b]? =some (.map es c)∧uI es c k v f st
def KJ (w:World) (b l:Nat) (o:Obj):Prop:=b=l∧w.heap[b]? =some o
def aX (θ:Th) (base:Nat) (w:World) (d:Ad):Vw→Prop
 | .box own cs=>(cs≠[]→ ∃ a,d.base=some a∧eC θ w a 0 cs)∧
   (own=true→ ∃ b,d.base=some ⟨b,0,none⟩∧base≤b∧Whole w b cs.length)
 | .row own el n sz f=>d.sz=sz∧n≤d.cap∧((n=0∨ ∃ a,d.base=some a)∧ ∀ a,d.base=some a→a.spot=none)∧(∀ i,i<n→(f i).length=sz∧(f i).all one=true)∧(∀ a,d.base=some a→ ∀ i,i<n→eC θ w a (i*sz) (f i))∧
   (own=true→d.base=none∧d.cap=0∨ ∃ b c,d.base=some ⟨b,0,none⟩∧base≤b∧w.heap[b]? =some (.cells c el (0,0))∧c.size=d.cap*sz∧d.cap≤maxLen)
 | .map own k v f st=> ∃ b,d.base=some ⟨b,0,none⟩∧(own=true→base≤b)∧KL w b k v f st
 | .obj own l x=> ∃ b,d.base=some ⟨b,0,none⟩∧(own=true→base≤b)∧KJ w b l x
structure bm (θ:Th) (base:Nat) (hp:List (Option Vw)) (w:World):Prop where
 vw: ∀ t v,hp[t]? =some (some v)→aX θ base w (θ t) v
 ne: ∀ t t' v v',hp[t]? =some (some v)→hp[t']? =some (some v')→t≠t'→v.own=true→(v'.own=true∨v'.live)→
  ∀ a a',(θ t).base=some a→(θ t').base=some a'→a.block≠a'.block
def vr (gl:List (Nat×Vw)) (w:World):Prop:= ∀ g v,(g,v)∈gl→g<w.heap.size∧ ∀ θ,match v with
 | .box o cs=>eC θ w ⟨g,0,none⟩ 0 cs∧(o=true→ ∃ c el,w.heap[g]? =some (.cells c el (0,0)))
 | .row _ _ n sz f=> ∀ i,i<n→(f i).length=sz∧eC θ w ⟨g,0,none⟩ (i*sz) (f i)
 | .map _ _ _ _ _=>True
 | .obj _ _ _=>True
structure Rx where
 rd:Option Nat:=none
 ds:List Deferred:=[]
 df:Bool:=false
structure iD where
 fn:FuncId
 tmps:List (Option SV)
 todo:List Item
 rx:Rx:={}
structure SC where
 bo:List iD
 hp:List (Option Vw)
def au (rx:Rx) (fn:FuncId) (T:Array Value) (todo:List Item):Frame:=({(default:Frame)with fn:=fn,kind:=cond rx.df .deferred .normal,roundOf:=rx.rd}:Frame).atR {tmps:=T,defers:=rx.ds} todo
def eV (θ:Th) (l:List (Option SV)) (T:Array Value):Prop:=T.size=l.length∧ ∀ (j:Nat) (v:SV),l[j]? =some (some v)→T[j]? =some (den θ v)
def LZ (θ:Th) (s:iD) (fr:Frame):Prop:= ∃ T,fr=au s.rx s.fn T s.todo∧eV θ s.tmps T
inductive kJ (θ:Th):List iD→List Frame→Prop
 |nil:kJ θ [] []
 |cons {s:iD} {ss:List iD} {fr:Frame} {bo:List Frame}:LZ θ s fr→kJ θ ss bo→kJ θ (s::ss) (fr::bo)
def bX (A:Nat→Prop) (θ θ':Th):Prop:= ∀ t,A t→θ' t=θ t
theorem bX.refl (A:Nat→Prop) (θ:Th):bX A θ θ:=fun _ _=>rfl
abbrev az (n:Nat) (θ θ':Th):Prop:=bX (fun t=>t<n) θ θ'
theorem az.refl (n:Nat) (θ:Th):az n θ θ:=fun _ _=>rfl
theorem az.trans {n:Nat} {a b c:Th} (h:az n a b) (k:az n b c):az n a c:=fun t ht=>(k t ht).trans (h t ht)
theorem az.mono {n m:Nat} {a b:Th} (h:az n a b) (hm:m≤n):az m a b:=fun t ht=>h t (Nat.lt_of_lt_of_le ht hm)
structure Cx where
 P:Program
 gl:List (Nat×Vw)
 base:Nat
 w0:World
 θ0:Th
 n0:Nat
 cs:List Frame
 ce:List Frame
 f0:FuncId
 R:Ending→World→Prop
structure Rel (X:Cx) (θ:Th) (c:SC) (bo:List Frame) (w:World):Prop where
 hp:bm θ X.base c.hp w
 fr:kJ θ c.bo bo
structure dz (X:Cx) (θ:Th) (c:SC) (bo:List Frame) (w:World):Prop where
 rel: ∀ θ',az c.hp.length θ θ'→Rel X θ' c bo w
 ae:az X.n0 X.θ0 θ
 len:X.n0≤c.hp.length
 sb:Below X.base X.w0 w
 sz:X.base≤w.heap.size
 gX:vr X.gl w
 gb: ∀ g v,(g,v)∈X.gl→g<X.base
def pU (X:Cx) (fr:Frame) (bo:List Frame) (w:World):Prop:=
 ∃ e w' fr',X.R e w'∧Comes X.P (lone fr (bo++X.cs) w) (lone fr' X.ce w') e∧fr'.fn=X.f0∧fr'.leaving X.P w' e
def Ok (X:Cx) (c:SC):Prop:= ∀ θ fr bo w,dz X θ c (fr::bo) w→pU X fr bo w
theorem pU.steps {X:Cx} {fr fr2:Frame} {bo frs2:List Frame} {w w2:World} (h:Steps X.P (lone fr (bo++X.cs) w) (lone fr2 (frs2++X.cs) w2))
  (hd:pU X fr2 frs2 w2):pU X fr bo w:=by
 obtain⟨e,w',fr',hR,hc,h1,h2⟩:=hd
 exact⟨e,w',fr',hR,Comes.of_steps h hc,h1,h2⟩
theorem vr.below {gl:List (Nat×Vw)} {base:Nat} {w w':World} (hg:vr gl w) (hb: ∀ g v,(g,v)∈gl→g<base) (h:Below base w w'):vr gl w':=by
 intro g v hm
 obtain⟨h1,h2⟩:=hg g v hm
 refine⟨Nat.lt_of_lt_of_le h1 h.size,fun θ=> ?_⟩
 have hc: ∀ o,w'.cell? ⟨g,o,none⟩=w.cell? ⟨g,o,none⟩:=fun o=>World.cell?_of_block (h.block g (hb g v hm))
 have h3:=h2 θ
 cases v with
 |box o cs=>exact⟨fun k v hk=>(hc _).trans (h3.1 k v hk),fun ho=>by rw[h.block g (hb g _ hm)];exact h3.2 ho⟩
 |row o el n sz f=>exact fun i hi=>⟨(h3 i hi).1,fun k v hk=>(hc _).trans ((h3 i hi).2 k v hk)⟩
 |map o k v f st=>trivial
 |obj o l x0=>trivial
theorem Ok.sk {X:Cx} {c c':SC} (hlen:c.hp.length≤c'.hp.length)
  (h: ∀ θ fr bo w,dz X θ c (fr::bo) w→ ∃ fr2 frs2 w2, ∃ new:Nat→Ad,Steps X.P (lone fr (bo++X.cs) w) (lone fr2 (frs2++X.cs) w2)∧
   Below X.base w w2∧ ∀ θ',az c.hp.length θ θ'→(∀ k,c.hp.length+k<c'.hp.length→θ' (c.hp.length+k)=new k)→Rel X θ' c' (fr2::frs2) w2) (hk:Ok X c'):Ok X c:=by
 intro θ fr bo w hh
 obtain⟨fr2,frs2,w2,new,hs,hb,hr⟩:=h θ fr bo w hh
 refine pU.steps hs (hk (fun t=>if t<c.hp.length then θ t else new (t-c.hp.length)) fr2 frs2 w2 ⟨?_, ?_,Nat.le_trans hh.len hlen,hh.sb.trans hb,Nat.le_trans hh.sz hb.size,hh.gX.below hh.gb hb,hh.gb⟩)
 ·intro θ' hs'
  refine hr θ' (fun t ht=> ?_) (fun k hk=> ?_)
  ·rw[hs' t (by omega)];simp[ht]
  ·rw[hs' _ hk];simp only[show¬c.hp.length+k<c.hp.length by omega,if_false,Nat.add_sub_cancel_left]
 ·intro t ht
  have:=hh.len
  simp only[show t<c.hp.length by omega,if_true]
  exact hh.ae t ht
end Go.Sx
namespace Go.Sx
open Go.RowKit
inductive Hint where
 |b (v:Bool)
 |inl
 |call (σ:List Nat) (res:SV) (new:List (Option Vw))
 |row (f:Nat→List SV)
 |t
 |w
 |cw
 |cut
 |draw (m:Nat) (F:List Nat) (k:Nat)
 |ext (v:SV)
inductive Ef where
 |val (v:SV) (hp:List (Option Vw))
 |skip (hp:List (Option Vw))
 |enter (f:FuncId) (args:List SV)
def bE:List Prop→Prop
 |[]=>True
 |p::ps=>p∧bE ps
theorem aK: ∀ {ps qs:List Prop},bE (ps++qs)→bE ps∧bE qs
 |[],_,h=>⟨trivial,h⟩
 |_::_,_,h=>⟨⟨h.1,(aK h.2).1⟩,(aK h.2).2⟩
def aj:IntKind→Int→Prop
 | .i8,x=> -128≤x∧x≤127
 | .i16,x=> -32768≤x∧x≤32767
 | .i32,x=> -2147483648≤x∧x≤2147483647
 | .i64,x=> -9223372036854775808≤x∧x≤9223372036854775807
 | .u8,x=>0≤x∧x≤255
 | .u16,x=>0≤x∧x≤65535
 | .u32,x=>0≤x∧x≤4294967295
 | .u64,x=>0≤x∧x≤18446744073709551615
theorem bG {k:IntKind} {x:Int} (h:aj k x):k.wrap x=x:=by
 cases k<;>simp only[aj]at h<;>simp only[IntKind.wrap,IntKind.signed,IntKind.bits]<;>simp<;>omega
def rH:Value→SV
 | .agg cs=> .agg (cs.toList.map .val)
 | .tuple vs=> .af (vs.toList.map .val)
 |v=> .val v
theorem oB (θ:Th) (l:List Value):ax θ (l.map .val)=l:=by
 rw[aC,List.map_map]
 induction l with
 |nil=>rfl
 |cons a l ih=>simp only[List.map_cons,Function.comp,den]at*;rw[ih]
theorem Gq (θ:Th) (v:Value):den θ (rH v)=v:=by
 cases v<;>simp only[rH,den,oB]
def ev (l:List (Option SV)):Operand→Option SV
 | .tmp t=>match l[t]? with
   |some x=>x
   |none=>none
 | .const v=>some (rH v)
 | .global g=>some (.val (.pointer (some ⟨g,0,none⟩)))
 | .func f=>some (.fn (.func f) [] [])
theorem an {θ:Th} {l:List (Option SV)} {T:Array Value} {ds:List Deferred} (h:eV θ l T) {x:Operand} {v:SV} (he:ev l x=some v):(Act.mk T ds).eval x=den θ v:=by
 cases x with
 |tmp t=>
  simp only[ev]at he
  split at he
  ·rename_i y hy
   subst he
   have:=h.2 t v hy
   simp only[Act.eval,Array.getD_eq_getD_getElem?,this,Option.getD_some]
  ·cases he
 |const c=>simp only[ev,Option.some.injEq]at he;subst he;rw[Gq];rfl
 |global g=>simp only[ev,Option.some.injEq]at he;subst he;rfl
 |func f=>simp only[ev,Option.some.injEq]at he;subst he;rfl
def xm (l:List (Option SV)):List Operand→Option (List SV)
 |[]=>some []
 |x::xs=>match ev l x,xm l xs with
  |some v,some vs=>some (v::vs)
  |_,_=>none
theorem fX {θ:Th} {l:List (Option SV)} {T:Array Value} {ds:List Deferred} (h:eV θ l T): ∀ {xs:List Operand} {vs:List SV},xm l xs=some vs→xs.map (Act.mk T ds).eval=ax θ vs
 |[],vs,he=>by simp only[xm,Option.some.injEq]at he;subst he;rfl
 |x::xs,vs,he=>by
  simp only[xm]at he
  split at he
  ·rename_i v vs' h1 h2
   cases he
   simp only[List.map_cons,ax,an h h1,fX h h2]
  ·cases he
def cZ:SV→Option (List SV)
 | .agg cs=>some cs
 | .af _=>none
 | .val (.agg _)=>none
 | .val (.tuple _)=>none
 |v=>some [v]
theorem gJ {θ:Th} {v:SV} {cs:List SV} (h:cZ v=some cs):(den θ v).cells=(ax θ cs).toArray:=by
 cases v with
 |agg l=>simp only[cZ,Option.some.injEq]at h;subst h;rfl
 |af l=>simp[cZ]at h
 |val x=>cases x<;>simp only[cZ,Option.some.injEq,reduceCtorEq]at h<;>subst h<;>rfl
 |_=>simp only[cZ,Option.some.injEq]at h;subst h;rfl
def rZ (P:Program) (t:TypeId):Option Bool:=match P.underlying t with
 |some (.struct _)=>some true
 |some (.array _ _)=>some true
 |some _=>some false
 |none=>none
def eZ (P:Program) (t:TypeId):Option Nat:=(P.info? t).map (·.size)
def cut (cs:List SV) (off size:Nat):Option (List SV):=if off+size≤cs.length then some ((cs.drop off).take size)else none
theorem jm {cs r:List SV} {off size:Nat} (h:cut cs off size=some r):r.length=size∧ ∀ (k:Nat) (v:SV),r[k]? =some v→cs[off+k]? =some v:=by
 grind [cut]
def Hm (ag:Bool) (cs:List SV):Option SV:=if ag then some (.agg cs)else match cs with
 |[v]=>some v
 |_=>none
def bL (hp:List (Option Vw)) (t:Nat):Option Vw:=match hp[t]? with
 |some x=>x
 |none=>none
theorem aN {hp:List (Option Vw)} {t:Nat} {v:Vw} (h:bL hp t=some v):hp[t]? =some (some v):=by
 grind [bL]
def Ae (gl:List (Nat×Vw)) (g:Nat):Option Vw:=match gl with
 |[]=>none
 |(g',v)::r=>if g'==g then some v else Ae r g
theorem yE {gl:List (Nat×Vw)} {g:Nat} {v:Vw} (h:Ae gl g=some v):(g,v)∈gl:=by
 induction gl with
 |nil=>cases h
 |cons x r ih=>
  grind [Ae]
def sC (gl:List (Nat×Vw)) (hp:List (Option Vw)) (size:Nat):SV→Option (List Prop×List SV)
 | .ptr t j=>match bL hp t with
   |some (.box _ cs)=>(cut cs j size).map fun r=>([],r)
   |_=>none
 | .oE t i j=>match bL hp t with
   |some (.row _ _ n _ f)=>(cut (f i.toNat) j size).map fun r=>([0≤i∧i<(n:Int)],r)
   |_=>none
 | .qU g sz i j=>match Ae gl g with
   |some (.row _ _ n sz' f)=>if sz==sz' then(cut (f i.toNat) j size).map fun r=>([0≤i∧i<(n:Int)],r)else none
   |_=>none
 | .val (.pointer (some ⟨g,j,none⟩))=>match Ae gl g with
   |some (.box _ cs)=>(cut cs j size).map fun r=>([],r)
   |_=>none
 |_=>none
theorem rR {gl:List (Nat×Vw)} {hp:List (Option Vw)} {size:Nat} {x:SV} {ps:List Prop} {r:List SV} {θ:Th} {base:Nat} {w:World}
  (h:sC gl hp size x=some (ps,r)) (hps:bE ps) (hh:bm θ base hp w) (hg:vr gl w) (h0:0<size):
  r.length=size∧ ∃ a:Addr,den θ x= .pointer (some a)∧a.spot=none∧ ∀ (k:Nat) (v:SV),r[k]? =some v→w.cell? (at_ a k)=some (den θ v):=by
 unfold sC at h
 split at h
 ·rename_i t j
  split at h
  ·rename_i o cs hv
   cases hc:cut cs j size with
   |none=>simp[hc]at h
   |some r'=>
    simp only[hc,Option.map_some,Option.some.injEq,Prod.mk.injEq]at h
    obtain⟨rfl,rfl⟩:=h
    obtain⟨hl,hr⟩:=jm hc
    obtain⟨hb, -⟩:=hh.vw t _ (aN hv)
    have hne:cs≠[]:=by
     grind [cut]
    obtain⟨a,ha,hlie⟩:=hb hne
    refine⟨hl,at_ a j,by simp[den,ha],rfl,fun k v hk=> ?_⟩
    have:=hlie (j+k) v (hr k v hk)
    grind [at_]
  ·cases h
 ·rename_i t i j
  split at h
  ·rename_i o el n sz f hv
   cases hc:cut (f i.toNat) j size with
   |none=>simp[hc]at h
   |some r'=>
    simp only[hc,Option.map_some,Option.some.injEq,Prod.mk.injEq]at h
    obtain⟨rfl,rfl⟩:=h
    obtain⟨hl,hr⟩:=jm hc
    obtain⟨hi0,hi1⟩:=hps.1
    obtain⟨hsz,hcap,hb,hfl,hlie, -⟩:=hh.vw t _ (aN hv)
    rcases hb.1 with hb|⟨a,ha⟩
    ·omega
    ·refine⟨hl,at_ a (i.toNat*sz+j),by simp[den,ha,hsz],rfl,fun k v hk=> ?_⟩
     have:=(hlie a ha i.toNat (by omega)) (j+k) v (hr k v hk)
     grind [at_]
  ·cases h
 ·rename_i g sz i j
  split at h
  ·rename_i o el n sz' f hv
   split at h
   ·rename_i hs
    rw[beq_iff_eq]at hs
    subst hs
    cases hc:cut (f i.toNat) j size with
    |none=>simp[hc]at h
    |some r'=>
     simp only[hc,Option.map_some,Option.some.injEq,Prod.mk.injEq]at h
     obtain⟨rfl,rfl⟩:=h
     obtain⟨hl,hr⟩:=jm hc
     obtain⟨hi0,hi1⟩:=hps.1
     have hlie:=((hg g _ (yE hv)).2 θ)
     refine⟨hl,⟨g,i.toNat*sz+j,none⟩,rfl,rfl,fun k v hk=> ?_⟩
     have:=(hlie i.toNat (by omega)).2 (j+k) v (hr k v hk)
     grind [at_]
   ·cases h
  ·cases h
 ·rename_i g j
  split at h
  ·rename_i o cs hv
   cases hc:cut cs j size with
   |none=>simp[hc]at h
   |some r'=>
    simp only[hc,Option.map_some,Option.some.injEq,Prod.mk.injEq]at h
    obtain⟨rfl,rfl⟩:=h
    obtain⟨hl,hr⟩:=jm hc
    have hlie:=((hg g _ (yE hv)).2 θ).1
    refine⟨hl,⟨g,j,none⟩,rfl,rfl,fun k v hk=> ?_⟩
    have:=hlie (j+k) v (hr k v hk)
    grind [at_]
  ·cases h
 ·cases h
section
variable {P:Program} {w:World}
theorem qb {t:TypeId} {b:Bool} (h:rZ P t=some b):(isAgg t).run P w= .ok b w:=by
 unfold rZ at h
 unfold isAgg underlying
 cases hu:P.underlying t with
 |none=>simp[hu]at h
 |some d=>cases d<;>simp_all
theorem run_sizeOf {t:TypeId} {n:Nat} (h:eZ P t=some n):(sizeOf t).run P w= .ok n w:=by
 unfold eZ at h
 cases hi:P.info? t with
 |none=>simp[hi]at h
 |some i=>simp[hi]at h;subst h;simp[sizeOf,typeInfo,hi]
theorem xd (a:Addr) (hs:a.spot=none) (k:Nat):a.add k=at_ a k:=by
 unfold Addr.add at_
 split
 ·rename_i h;subst h;cases a;simp_all
 ·cases a;simp_all
theorem qa {t:TypeId} {ag:Bool} {a:Addr} {r:List SV} {x:SV} {θ:Th} (h1:rZ P t=some ag) (h2:eZ P t=some r.length) (h3:Hm ag r=some x) (hs:a.spot=none)
  (hc: ∀ (k:Nat) (v:SV),r[k]? =some v→w.cell? (at_ a k)=some (den θ v)):(loadVar t a).run P w= .ok (den θ x) w:=by
 unfold loadVar
 rw[Sem.run_bind,qb h1]
 simp only[Result.andThen_ok]
 unfold Hm at h3
 split at h3
 ·rename_i hag
  cases h3
  simp only[hag,if_true,Sem.run_bind,run_sizeOf h2,Result.andThen_ok]
  have:=run_loadCells_list (P:=P) w a (ax θ r) (fun j v hj=>by
   rw[aC,List.getElem?_map]at hj
   cases hr:r[j]? with
   |none=>simp[hr]at hj
   |some y=>simp[hr]at hj;subst hj;rw[xd a hs];exact hc j y hr)
  rw[aC,List.length_map]at this
  simp only[this,Result.andThen_ok,Sem.run_pure,den,aC]
 ·rename_i hag
  split at h3
  ·rename_i v
   cases h3
   have hcell:=hc 0 x rfl
   have ha:at_ a 0=a:=by cases a;simp_all [at_]
   simp_all
  ·cases h3
end
def Inv (A:Nat→Prop) (base:Nat) (θ:Th) (l:List (Option SV)) (hp:List (Option Vw)) (T:Array Value) (w:World):Prop:=
 ∀ θ',bX A θ θ'→bm θ' base hp w∧eV θ' l T
structure gM (A:Nat→Prop) (P:Program) (gl:List (Nat×Vw)) (base:Nat) (θ:Th) (l:List (Option SV)) (hp:List (Option Vw)) (T:Array Value) (w:World):Prop where
 inv:Inv A base θ l hp T w
 kn: ∀ (t:Nat) (v:Vw),hp[t]? =some (some v)→A t
 gX:vr gl w
 gb: ∀ g v,(g,v)∈gl→g<base
 sz:base≤w.heap.size
abbrev LX (P:Program) (gl:List (Nat×Vw)) (base:Nat) (θ:Th) (l:List (Option SV)) (hp:List (Option Vw)) (T:Array Value) (w:World):Prop:=gM (fun t=>t<hp.length) P gl base θ l hp T w
def ek (A:Nat→Prop) (P:Program) (base:Nat) (θ:Th) (hp:List (Option Vw)) (w:World) (run:Result Next):Ef→Prop
 | .val v hp'=> ∃ r w', ∃ new:Nat→Ad,run= .ok (.value r) w'∧Below base w w'∧hp.length≤hp'.length∧
   ∀ θ',bX A θ θ'→(∀ k,hp.length+k<hp'.length→θ' (hp.length+k)=new k)→bm θ' base hp' w'∧r=den θ' v
 | .skip hp'=> ∃ w',run= .ok .skip w'∧Below base w w'∧hp.length=hp'.length∧ ∀ θ',bX A θ θ'→bm θ' base hp' w'
 | .enter f args=> ∃ as:List Value,run= .ok (.enter f as.toArray) w∧ ∀ θ',bX A θ θ'→as=ax θ' args
abbrev jr (P:Program) (base:Nat) (θ:Th) (hp:List (Option Vw)) (w:World) (run:Result Next) (e:Ef):Prop:=ek (fun t=>t<hp.length) P base θ hp w run e
section
variable {P:Program} {gl:List (Nat×Vw)} {base:Nat} {θ:Th} {l:List (Option SV)} {hp:List (Option Vw)} {T:Array Value} {w:World} {run:Result Next}
theorem jr.simple {A:Nat→Prop} {v:SV} (hI:gM A P gl base θ l hp T w) (h: ∀ θ',bm θ' base hp w→eV θ' l T→run= .ok (.value (den θ' v)) w):ek A P base θ hp w run (.val v hp):=by
 have h0:=h θ (hI.inv θ (bX.refl _ _)).1 (hI.inv θ (bX.refl _ _)).2
 refine⟨den θ v,w,fun _=>⟨none,0,0⟩,h0,Below.refl _ _,Nat.le_refl _,fun θ' hs _=> ?_⟩
 have h1:=h θ' (hI.inv θ' hs).1 (hI.inv θ' hs).2
 refine⟨(hI.inv θ' hs).1, ?_⟩
 simp_all
theorem aX.below {d:Ad} {v:Vw} {w':World} (h:aX θ base w d v) (hb:Below w.heap.size w w'):aX θ base w' d v:=by
 have hL: ∀ {a:Addr} {j:Nat} {cs:List SV},eC θ w a j cs→eC θ w' a j cs:=fun hl k v hk=>by
  have:=hl k v hk
  rw[←this]
  exact World.cell?_of_block (hb.block _ (World.block_lt_of_cell? w _ this))
 have hB: ∀ {b:Nat} {o:Obj},w.heap[b]? =some o→w'.heap[b]? =some o:=fun hb'=>by
  rw[hb.block _ (Array.getElem?_eq_some_iff.1 hb').1];exact hb'
 cases v with
 |box o cs=>
  refine⟨fun hn=> ?_,fun ho=> ?_⟩
  ·obtain⟨a,ha,hl⟩:=h.1 hn;exact⟨a,ha,hL hl⟩
  ·obtain⟨b,h1,h2,c,el,h3,h4⟩:=h.2 ho;exact⟨b,h1,h2,c,el,hB h3,h4⟩
 |row o el n sz f=>
  obtain⟨h1,h2,h3,hf,h4,h5⟩:=h
  refine⟨h1,h2,h3,hf,fun a ha i hi=>hL (h4 a ha i hi),fun ho=> ?_⟩
  grind
 |map o k v f st=>obtain⟨b,h1,h2,es,c,h3,h4⟩:=h;exact⟨b,h1,h2,es,c,hB h3,h4⟩
 |obj o l x0=>obtain⟨b,h1,h2,h3,h4⟩:=h;exact⟨b,h1,h2,h3,hB h4⟩
theorem bm.below {w':World} (h:bm θ base hp w) (hb:Below w.heap.size w w'):bm θ base hp w':=⟨fun t v ht=>(h.vw t v ht).below hb,h.ne⟩
theorem World.po {a:Addr} {j:Nat} {cs:List SV} (h:eC θ w a j cs) (hn:cs≠[]):a.block<w.heap.size:=by
 cases cs with
 |nil=>exact absurd rfl hn
 |cons c r=>exact World.block_lt_of_cell? w (at_ a (j+0)) (h 0 c rfl)
theorem aX.lt {d:Ad} {v:Vw} {a:Addr} (h:aX θ base w d v) (ha:d.base=some a) (hl:v.own=true∨v.live):a.block<w.heap.size:=by
 cases v with
 |box o cs=>
  rcases hl with hl|hl
  ·obtain⟨b,h1,h2,c,el,h3,h4⟩:=h.2 hl
   grind
  ·obtain⟨a',h1,h2⟩:=h.1 hl
   rw[ha]at h1;cases h1
   exact World.po h2 hl
 |row o el n sz f=>
  obtain⟨h1,h2,h3,hf,h4,h5⟩:=h
  rcases hl with hl|hl
  ·rcases h5 hl with h|⟨b,c,e1,e2,e3,e4⟩
   all_goals grind
  ·refine World.po (h4 a ha 0 hl.1) ?_
   rintro he
   have h6:=(hf 0 hl.1).1
   rw[he]at h6
   simp at h6
   have:=hl.2
   omega
 |map o k v f st=>
  obtain⟨b,h1, -,es,c,h3, -⟩:=h
  grind
 |obj o l x0=>
  obtain⟨b,h1, -, -,h3⟩:=h
  grind
theorem bm.push {w':World} {v:Vw} {d:Ad} (h:bm θ base hp w) (hb:Below w.heap.size w w') (hd:θ hp.length=d) (hv:aX θ base w' d v)
  (hnew: ∀ a,d.base=some a→w.heap.size≤a.block):bm θ base (hp++[some v]) w':=by
 have h':=h.below hb
 have key: ∀ t x,(hp++[some v])[t]? =some (some x)→(hp[t]? =some (some x)∧t<hp.length)∨(t=hp.length∧x=v):=by
  grind
 refine⟨fun t x ht=> ?_,fun t t' x x' ht ht' hne ho hl a a' ha ha'=> ?_⟩
 ·rcases key t x ht with⟨h1, -⟩|⟨rfl,rfl⟩
  ·exact h'.vw t x h1
  ·rw[hd];exact hv
 ·rcases key t x ht with⟨h1,h2⟩|⟨rfl,rfl⟩<;>rcases key t' x' ht' with⟨h3,h4⟩|⟨rfl,rfl⟩
  ·exact h'.ne t t' x x' h1 h3 hne ho hl a a' ha ha'
  ·have:=(h.vw t x h1).lt ha (.inl ho)
   grind
  ·have:=(h.vw t' x' h3).lt ha' hl
   grind
  ·exact absurd rfl hne
end
end Go.Sx
namespace Go.Sx
open Go.RowKit
def dr (k:IntKind) (a b:Int):Int:=k.wrap (BitVec.ofInt k.bits a&&&BitVec.ofInt k.bits b).toNat
def DP (k:IntKind) (a b:Int):Int:=k.wrap (BitVec.ofInt k.bits a|||BitVec.ofInt k.bits b).toNat
def Jz (k:IntKind) (a b:Int):Int:=k.wrap (BitVec.ofInt k.bits a^^^BitVec.ofInt k.bits b).toNat
def BX (k:IntKind) (a b:Int):Int:=k.wrap (BitVec.ofInt k.bits a&&& ~~~BitVec.ofInt k.bits b).toNat
def gO (k:IntKind) (a b:Int):Int:=k.wrap (a*2^min b.toNat k.bits)
def bq (k:IntKind) (a b:Int):Int:=a.fdiv (2^min b.toNat k.bits)
def CU (hs:List Hint) (op:BinOp) (k:IntKind) (a b:Int):Option (List Prop×List Hint×SV):=
 match op with
 | .add=>match hs with
   | .w::hs=>some ([],hs, .val (.int k (k.wrap (a+b))))
   | .t::hs=>some ([aj k (a+b)],hs, .val (.int k (a+b)))
   |hs=>some ([aj k (a+b)],hs, .val (.int k (a+b)))
 | .sub=>match hs with
   | .w::hs=>some ([],hs, .val (.int k (k.wrap (a-b))))
   | .t::hs=>some ([aj k (a-b)],hs, .val (.int k (a-b)))
   |hs=>some ([aj k (a-b)],hs, .val (.int k (a-b)))
 | .mul=>match hs with
   | .w::hs=>some ([],hs, .val (.int k (k.wrap (a*b))))
   | .t::hs=>some ([aj k (a*b)],hs, .val (.int k (a*b)))
   |hs=>some ([aj k (a*b)],hs, .val (.int k (a*b)))
 | .and=>some ([],hs, .val (.int k (dr k a b)))
 | .or=>some ([],hs, .val (.int k (DP k a b)))
 | .xor=>some ([],hs, .val (.int k (Jz k a b)))
 | .andNot=>some ([],hs, .val (.int k (BX k a b)))
 | .quo=>match hs with
   | .t::hs=>some ([b≠0,aj k (a.tdiv b)],hs, .val (.int k (a.tdiv b)))
   |hs=>some ([0≤a,0<b,aj k (a/b)],hs, .val (.int k (a/b)))
 | .rem=>match hs with
   | .t::hs=>some ([b≠0],hs, .val (.int k (a.tmod b)))
   |hs=>some ([0≤a,0<b],hs, .val (.int k (a%b)))
 | .eql=>some ([],hs, .val (.bool (a==b)))
 | .neq=>some ([],hs, .val (.bool (a !=b)))
 | .lss=>some ([],hs, .val (.bool (decide (a<b))))
 | .leq=>some ([],hs, .val (.bool (decide (a≤b))))
 | .gtr=>some ([],hs, .val (.bool (decide (a>b))))
 | .geq=>some ([],hs, .val (.bool (decide (a≥b))))
 |_=>none
theorem B8 {P:Program} {w:World} {hs hs':List Hint} {op:BinOp} {k:IntKind} {a b:Int} {ps:List Prop} {v:SV} (t:TypeId) (h:CU hs op k a b=some (ps,hs',v)) (hp:bE ps):
  ∃ x,v= .val x∧(binOp op t (.int k a) (.int k b)).run P w= .ok x w:=by
 cases op<;>simp only[CU,reduceCtorEq,Option.some.injEq,Prod.mk.injEq]at h
 case add=>
  split at h<;>(simp only[Option.some.injEq,Prod.mk.injEq]at h;obtain⟨rfl, -,rfl⟩:=h)
  ·exact⟨_,rfl,by simp[binOp,Op.intArith]⟩
  ·exact⟨_,rfl,by simp[binOp,Op.intArith,bG hp.1]⟩
  ·exact⟨_,rfl,by simp[binOp,Op.intArith,bG hp.1]⟩
 case sub=>
  split at h<;>(simp only[Option.some.injEq,Prod.mk.injEq]at h;obtain⟨rfl, -,rfl⟩:=h)
  ·exact⟨_,rfl,by simp[binOp,Op.intArith]⟩
  ·exact⟨_,rfl,by simp[binOp,Op.intArith,bG hp.1]⟩
  ·exact⟨_,rfl,by simp[binOp,Op.intArith,bG hp.1]⟩
 case mul=>
  split at h<;>(simp only[Option.some.injEq,Prod.mk.injEq]at h;obtain⟨rfl, -,rfl⟩:=h)
  ·exact⟨_,rfl,by simp[binOp,Op.intArith]⟩
  ·exact⟨_,rfl,by simp[binOp,Op.intArith,bG hp.1]⟩
  ·exact⟨_,rfl,by simp[binOp,Op.intArith,bG hp.1]⟩
 case and=>obtain⟨rfl, -,rfl⟩:=h;exact⟨_,rfl,by simp[binOp,Op.intBits,dr]⟩
 case or=>obtain⟨rfl, -,rfl⟩:=h;exact⟨_,rfl,by simp[binOp,Op.intBits,DP]⟩
 case xor=>obtain⟨rfl, -,rfl⟩:=h;exact⟨_,rfl,by simp[binOp,Op.intBits,Jz]⟩
 case andNot=>obtain⟨rfl, -,rfl⟩:=h;exact⟨_,rfl,by simp[binOp,Op.intBits,BX]⟩
 case quo=>
  split at h<;>(simp only[Option.some.injEq,Prod.mk.injEq]at h;obtain⟨rfl, -,rfl⟩:=h)
  ·exact⟨_,rfl,by simp[binOp,Op.intDiv,hp.1,bG hp.2.1]⟩
  ·refine⟨_,rfl, ?_⟩
   have h1:b≠0:=by have:=hp.2.1;omega
   simp only[binOp,Op.intDiv,h1,if_false,ne_eq,not_true_eq_false]
   rw[Int.tdiv_eq_ediv_of_nonneg hp.1]
   simp[bG hp.2.2.1]
 case rem=>
  split at h<;>(simp only[Option.some.injEq,Prod.mk.injEq]at h;obtain⟨rfl, -,rfl⟩:=h)
  ·exact⟨_,rfl,by simp[binOp,Op.intDiv,hp.1]⟩
  ·refine⟨_,rfl, ?_⟩
   have h1:b≠0:=by have:=hp.2.1;omega
   simp only[binOp,Op.intDiv,h1,if_false,ne_eq,not_true_eq_false]
   rw[Int.tmod_eq_emod_of_nonneg hp.1]
   simp
 all_goals (obtain⟨rfl, -,rfl⟩:=h;exact⟨_,rfl,by simp[binOp,Op.intCmp]⟩)
def wm (hs:List Hint) (op:BinOp) (k:IntKind) (a:Int) (k':IntKind) (b:Int):Option (List Prop×List Hint×SV):=
 match op with
 | .shl=>some ([0≤b],hs, .val (.int k (gO k a b)))
 | .shr=>some ([0≤b],hs, .val (.int k (bq k a b)))
 |op=>if k==k' then CU hs op k a b else none
def Jy (P:Program):List Field→List SV→List SV→Option Bool
 |[],_,_=>some true
 |f::fs,xs,ys=>if f.name== "_" then none else match P.underlying f.type with
  |some (.int _)=>match xs[f.offset]?,ys[f.offset]? with
   |some (.val (.int k a)),some (.val (.int k' b))=>match k==k',Jy P fs xs ys with
    |true,some r=>some (a==b&&r)
    |_,_=>none
   |_,_=>none
  |some .bool=>match xs[f.offset]?,ys[f.offset]? with
   |some (.val (.bool a)),some (.val (.bool b))=>match Jy P fs xs ys with
    |some r=>some (a==b&&r)
    |_=>none
   |_,_=>none
  |_=>none
def FB (P:Program) (t:TypeId) (x y:SV):Option Bool:=match P.underlying t with
 |some (.struct fs)=>if P.stoodInHeld t||P.eqGuardType P.depth t then none else match x,y with
  | .agg xs, .agg ys=>Jy P fs.toList xs ys
  |_,_=>none
 |some .bool=>match x,y with
  | .val (.bool a), .val (.bool b)=>some (a==b)
  |_,_=>none
 |some .string=>match x,y with
  | .val (.string a), .val (.string b)=>some (a.toList==b.toList)
  |_,_=>none
 |_=>none
theorem cJ {k k':IntKind} (h:(k==k')=true):k=k':=by
 simp_all
theorem xu {P:Program} {w:World} {hs hs':List Hint} {op:BinOp} {k k':IntKind} {a b:Int} {ps:List Prop} {v:SV} (t:TypeId) (h:wm hs op k a k' b=some (ps,hs',v)) (hp:bE ps):
  ∃ x,v= .val x∧(binOp op t (.int k a) (.int k' b)).run P w= .ok x w:=by
 unfold wm at h
 split at h
 ·cases h
  have:=hp.1
  exact⟨_,rfl,by simp[binOp,Op.shift,gO,show¬b<0 by omega]⟩
 ·cases h
  have:=hp.1
  exact⟨_,rfl,by simp[binOp,Op.shift,bq,show¬b<0 by omega]⟩
 ·split at h
  ·rename_i hk
   obtain rfl:=cJ hk
   exact B8 t h hp
  ·cases h
section
variable {P:Program} {w:World} {θ:Th}
theorem ar {t:TypeId} {d:TypeDesc} (h:P.underlying t=some d):(underlying t).run P w= .ok d w:=by simp[underlying,h]
theorem ot {t:TypeId} {cs:Array Value} {j:Nat} {v:Value} (h:rZ P t=some false) (hc:cs[j]? =some v):(part t cs j).run P w= .ok v w:=by
 unfold part
 rw[Sem.run_bind,qb h]
 simp[hc]
theorem cP {xs:List SV} {j:Nat} {v:SV} (h:xs[j]? =some v):(ax θ xs).toArray[j]? =some (den θ v):=by
 rw[aC]
 simp[h]
theorem jx (d:Nat): ∀ (fs:List Field) (xs ys:List SV) (b:Bool),Jy P fs xs ys=some b→
  (Op.eqFields (d+1) (ax θ xs).toArray (ax θ ys).toArray fs).run P w= .ok b w
 |[],xs,ys,b,h=>by simp only[Jy,Option.some.injEq]at h;subst h;rfl
 |f::fs,xs,ys,b,h=>by
  simp only[Jy]at h
  split at h
  ·cases h
  ·rename_i hn
   have hn':f.name≠ "_" :=by intro e;exact hn (by rw[beq_iff_eq];exact e)
   simp only[Op.eqFields]
   rw[if_pos hn']
   split at h
   ·rename_i ki hu
    have hag:rZ P f.type=some false:=by unfold rZ;rw[hu]
    split at h
    ·rename_i k a k' b' h1 h2
     split at h
     ·rename_i r hk hr
      cases h
      obtain rfl:=cJ hk
      simp only[Sem.run_bind,ot hag (cP h1),ot hag (cP h2),Result.andThen_ok,den,run_equalIn_int w d f.type k ki a b' hu,Sem.run_ite,Sem.run_pure,
       jx d fs xs ys r hr]
      cases(a==b')<;>simp
     ·cases h
    ·cases h
   ·rename_i hu
    have hag:rZ P f.type=some false:=by unfold rZ;rw[hu]
    split at h
    ·rename_i a b' h1 h2
     split at h
     ·rename_i r hr
      cases h
      simp only[Sem.run_bind,ot hag (cP h1),ot hag (cP h2),Result.andThen_ok,den,run_equalIn_bool w d f.type a b' hu,Sem.run_ite,Sem.run_pure,
       jx d fs xs ys r hr]
      cases(a==b')<;>simp
     ·cases h
    ·cases h
   ·cases h
theorem xr {t:TypeId} {x y:SV} {b:Bool} (h:FB P t x y=some b) (o1 o2:Operand) (ne:Bool):
  (do eqGuard (if ne then .neq else .eql) t o1 o2 (den θ x) (den θ y);binOp (if ne then .neq else .eql) t (den θ x) (den θ y):Sem Value).run P w= .ok (.bool (if ne then !b else b)) w:=by
 unfold FB at h
 split at h
 ·rename_i fs hu
  split at h
  ·cases h
  ·rename_i hg
   rw[Bool.not_eq_true,Bool.or_eq_false_iff]at hg
   split at h
   ·rename_i xs ys
    have hf:P.fieldsOf t=fs:=by unfold Program.fieldsOf;rw[hu]
    have he:=run_equalIn_agg (P:=P) w 9999 t (ax θ xs).toArray (ax θ ys).toArray (by rw[hf];exact hu) hg.1
    rw[hf,jx 9998 fs.toList xs ys b h]at he
    cases ne
    ·simp only[den,Sem.run_bind,run_eqGuard_agg _ _ _ _ _ _ _ hg.2,Result.andThen_ok,if_false,Bool.false_eq_true]
     rw[run_eql_struct,he];rfl
    ·simp only[den,Sem.run_bind,run_eqGuard_agg _ _ _ _ _ _ _ hg.2,Result.andThen_ok,if_true]
     rw[run_neq_struct,he];rfl
   ·cases h
 ·rename_i hu
  split at h
  ·rename_i a b'
   cases h
   have he:=run_equalIn_bool (P:=P) w 9999 t a b' hu
   cases ne<;>simp[den,eqGuard,binOp,Op.equal,Op.maxDepth,he]
  ·cases h
 ·rename_i hu
  split at h
  ·rename_i a b'
   cases h
   cases ne<;>simp[den,eqGuard,binOp,Op.stringOp]
  ·cases h
 ·cases h
end
def vX (place:Nat→Option (Nat×Nat)) (cells:List SV):List (Nat×SV)→Option (List SV)
 |[]=>some cells
 |(i,v)::rest=>match place i,cZ v with
  |some (off,size),some cs=>if cs.length≠size||off+cs.length>cells.length then none
   else vX place (cells.take off++cs++cells.drop (off+cs.length)) rest
  |_,_=>none
theorem pK: ∀ (cs:List Value) (n off:Nat) (acc:Array Value),off+n+cs.length≤acc.size→
  (cs.zipIdx n).foldl (fun(a:Array Value) (p:Value×Nat)=>a.setIfInBounds (off+p.2) p.1) acc=(acc.toList.take (off+n)++cs++acc.toList.drop (off+n+cs.length)).toArray
 |[],n,off,acc,h=>by simp
 |c::cs,n,off,acc,h=>by
  simp only[List.length_cons]at h
  rw[List.zipIdx_cons,List.foldl_cons,pK cs (n+1) off _ (by simp;omega)]
  apply Array.ext'
  simp only[Array.toList_setIfInBounds]
  have h1:off+n<acc.toList.length:=by simp;omega
  have e1:(acc.toList.set (off+n) c).take (off+(n+1))=acc.toList.take (off+n)++[c]:=by
   rw[←Nat.add_assoc,List.take_succ_eq_append_getElem (by simpa using h1)]
   simp[List.take_set_of_le]
  have e2:(acc.toList.set (off+n) c).drop (off+(n+1)+cs.length)=acc.toList.drop (off+n+(c::cs).length):=by
   rw[List.drop_set_of_lt (by omega)]
   grind
  rw[e1,e2]
  simp
theorem qV {θ:Th} {place:Nat→Option (Nat×Nat)}: ∀ {parts:List (Nat×SV)} {cells cs:List SV},vX place cells parts=some cs→
  Instr.fill place (ax θ cells).toArray (parts.map fun p=>(p.1,den θ p.2))=some (ax θ cs).toArray
 |[],cells,cs,h=>by simp only[vX,Option.some.injEq]at h;subst h;rfl
 |(i,v)::rest,cells,cs,h=>by
  simp only[vX]at h
  split at h
  ·rename_i off size c hp hc
   split at h
   ·cases h
   ·rename_i hn
    simp only[List.map_cons,Instr.fill,hp,gJ hc]
    have hl:(ax θ c).toArray.size=c.length:=by simp[aC]
    have hl2:(ax θ cells).toArray.size=cells.length:=by simp[aC]
    rw[hl,hl2,if_neg hn]
    have e:((ax θ c).toArray.zipIdx.foldl (fun cs (c,j)=>cs.setIfInBounds (off+j) c) (ax θ cells).toArray)=
      (ax θ (cells.take off++c++cells.drop (off+c.length))).toArray:=by
     have hle:off+c.length≤cells.length:=by simp at hn;omega
     have:=pK (ax θ c) 0 off (ax θ cells).toArray (by simp[aC];omega)
     grind [aC]
    rw[e]
    exact qV h
  ·cases h
def AF (P:Program) (t:TypeId) (parts:List (Nat×SV)):Option (List SV):=match P.info? t,P.underlying t with
 |some it,some (.struct fs)=>match it.zero,fs.toList.mapM (fun f=>(P.info? f.type).map fun i=>(f.offset,i.size))with
  |some z,some places=>vX (places[·]?) (z.cells.toList.map .val) parts
  |_,_=>none
 |some it,some (.array _ e)=>match it.zero,P.info? e with
  |some z,some ie=>vX (fun i=>some (i*ie.size,ie.size)) (z.cells.toList.map .val) parts
  |_,_=>none
 |_,_=>none
section
variable {P:Program} {w:World} {θ:Th}
theorem AE {t:TypeId} {parts:List (Nat×SV)} {cs:List SV} (h:AF P t parts=some cs):
  (Instr.build t (parts.map fun p=>(p.1,den θ p.2)).toArray).run P w= .ok (den θ (.agg cs)) w:=by
 refine run_build w t _ _ ?_
 unfold AF at h
 unfold Program.built
 split at h
 ·rename_i it fs h1 h2
  split at h
  ·rename_i z places h3 h4
   have:=qV (θ:=θ) h
   rw[oB]at this
   simp_all
  ·cases h
 ·rename_i it n e h1 h2
  split at h
  ·rename_i z ie h3 h4
   have:=qV (θ:=θ) h
   rw[oB]at this
   simp_all
  ·cases h
 ·cases h
end
end Go.Sx
namespace Go.Sx
open Go.RowKit
section
variable {P:Program} {gl:List (Nat×Vw)} {base:Nat} {θ:Th} {l:List (Option SV)} {hp:List (Option Vw)} {T:Array Value} {w:World} {run:Result Next}
theorem jr.sm {hp':List (Option Vw)} {A:Nat→Prop} (hI:gM A P gl base θ l hp T w) (hlen:hp.length=hp'.length)
  (h: ∀ θ',bm θ' base hp w→eV θ' l T→ ∃ w',run= .ok .skip w'∧Below base w w'∧bm θ' base hp' w'):ek A P base θ hp w run (.skip hp'):=by
 obtain⟨w',h0,hb, -⟩:=h θ (hI.inv θ (bX.refl _ _)).1 (hI.inv θ (bX.refl _ _)).2
 refine⟨w',h0,hb,hlen,fun θ' hs=> ?_⟩
 obtain⟨w'',h1, -,hk⟩:=h θ' (hI.inv θ' hs).1 (hI.inv θ' hs).2
 simp_all
theorem aX.mono {d:Ad} {v:Vw} {b:Nat} (h:aX θ b w d v) (hb:base≤b):aX θ base w d v:=by
 cases v with
 |box o cs=>
  refine⟨h.1,fun ho=> ?_⟩
  obtain⟨b',h1,h2,h3⟩:=h.2 ho
  exact⟨b',h1,by omega,h3⟩
 |row o el n sz f=>
  obtain⟨h1,h2,h3,h4,h5,h6⟩:=h
  refine⟨h1,h2,h3,h4,h5,fun ho=> ?_⟩
  grind
 |map o k v f st=>obtain⟨b',h1,h2,h3⟩:=h;exact⟨b',h1,fun ho=>Nat.le_trans hb (h2 ho),h3⟩
 |obj o l x0=>obtain⟨b',h1,h2,h3⟩:=h;exact⟨b',h1,fun ho=>Nat.le_trans hb (h2 ho),h3⟩
def pS (base:Nat) (l:List (Option SV)) (hp:List (Option Vw)) (T:Array Value) (w:World) (run:Result Next) (v:SV) (vw:Vw):Prop:=
 ∃ r w' d,run= .ok (.value r) w'∧Below w.heap.size w w'∧(∀ a,Ad.base d=some a→w.heap.size≤a.block)∧
     ∀ θ',bm θ' base hp w→eV θ' l T→θ' hp.length=d→r=den θ' v∧aX θ' w.heap.size w' d vw
theorem jr.hZ {v:SV} {vw:Vw} {A:Nat→Prop} (hI:gM A P gl base θ l hp T w)
  (h:pS base l hp T w run v vw):ek A P base θ hp w run (.val v (hp++[some vw])):=by
 obtain⟨r,w',d,h0,hb,hn,hk⟩:=h
 refine⟨r,w',fun _=>d,h0,hb.mono hI.sz,by simp,fun θ' hs hnew=> ?_⟩
 have hd:θ' hp.length=d:=hnew 0 (by simp)
 obtain⟨hh,ht⟩:=hI.inv θ' hs
 obtain⟨h1,h2⟩:=hk θ' hh ht hd
 exact⟨hh.push hb hd (h2.mono hI.sz) hn,h1⟩
theorem bR (w:World) (o:Obj):Below w.heap.size w (w.alloc o):=(Below.refl _ _).alloc (Nat.le_refl _) o
theorem yu {cs:List SV} (w:World) (e:TypeId) (θ:Th):eC θ (w.alloc (.cells (ax θ cs).toArray e)) ⟨w.heap.size,0,none⟩ 0 cs:=by
 intro k v hk
 show World.cell? _ ⟨w.heap.size,0+(0+k),none⟩=_
 rw[show 0+(0+k)=k by omega,World.cell?_alloc_new]
 exact cP hk
theorem xo {cs:List SV} (w:World) (e:TypeId) (θ:Th) (hb:base≤w.heap.size) (cap sz:Nat):
  aX θ base (w.alloc (.cells (ax θ cs).toArray e)) ⟨some ⟨w.heap.size,0,none⟩,cap,sz⟩ (.box true cs):=by
 refine⟨fun _=>⟨_,rfl,yu w e θ⟩,fun _=>⟨_,rfl,hb,(ax θ cs).toArray,e, ?_,by simp[aC]⟩⟩
 show(w.heap.push _)[w.heap.size]? =_
 simp
theorem s5 {t:TypeId} {v:Value}:(newVar t v).run P w= .ok ⟨w.heap.size,0,none⟩ (w.alloc (.cells v.cells t)):=rfl
theorem v7 {o:Oper} {a:Act} {e:TypeId} {i:TypeInfo} {z:Value} (ho:o.op= .alloc e) (hi:P.info? e=some i) (hz:i.zero=some z):
  pS base l hp T w ((execOp a.eval o).run P w) (.ptr hp.length 0) (.box true (z.cells.toList.map .val)):=by
 refine⟨.pointer (some ⟨w.heap.size,0,none⟩),w.alloc (.cells z.cells e),⟨some ⟨w.heap.size,0,none⟩,0,0⟩, ?_,bR _ _,fun a ha=> ?_,fun θ' hh ht hd=>⟨?_, ?_⟩⟩
 ·simp only[execOp,ho,Instr.alloc,Sem.run_bind,zeroValue,typeInfo,run_program,hi,hz,Result.andThen_ok,Sem.run_pure,s5]
 ·cases ha;exact Nat.le_refl _
 ·simp[den,hd,at_]
 ·have:=xo (cs:=z.cells.toList.map .val) w e θ' (Nat.le_refl _) 0 0
  rw[oB]at this
  exact this
theorem BU {o:Oper} {ds:List Deferred} {e:TypeId} {x:Operand} {v:SV} {cs:List SV} (ho:o.op= .box e x) (hv:ev l x=some v) (hc:cZ v=some cs):
  pS base l hp T w ((execOp (Act.mk T ds).eval o).run P w) (.ptr hp.length 0) (.box true cs):=by
 refine⟨.pointer (some ⟨w.heap.size,0,none⟩),w.alloc (.cells ((Act.mk T ds).eval x).cells e),⟨some ⟨w.heap.size,0,none⟩,0,0⟩, ?_,bR _ _,fun a ha=> ?_,fun θ' hh ht hd=>⟨?_, ?_⟩⟩
 ·simp only[execOp,ho,Instr.box,Sem.run_bind,s5,Result.andThen_ok,Sem.run_pure]
 ·cases ha;exact Nat.le_refl _
 ·simp[den,hd,at_]
 ·rw[an ht hv,gJ hc]
  grind [xo]
theorem aX.other {d:Ad} {v:Vw} {w':World} {b:Nat} (h:aX θ base w d v) (hw: ∀ k,k≠b→w'.heap[k]? =w.heap[k]?)
  (hne: ∀ a,d.base=some a→(v.own=true∨v.live)→a.block≠b):aX θ base w' d v:=by
 have hL: ∀ {a:Addr} {j:Nat} {cs:List SV},a.block≠b→eC θ w a j cs→eC θ w' a j cs:=fun hb hl k v hk=>by
  rw[←hl k v hk]
  exact World.cell?_of_block (hw _ hb)
 cases v with
 |box o cs=>
  refine⟨fun hn=> ?_,fun ho=> ?_⟩
  ·obtain⟨a,ha,hl⟩:=h.1 hn;exact⟨a,ha,hL (hne a ha (.inr hn)) hl⟩
  ·obtain⟨b',h1,h2,c,el,h3,h4⟩:=h.2 ho;exact⟨b',h1,h2,c,el,by rw[hw b' (hne _ h1 (.inl ho))];exact h3,h4⟩
 |row o el n sz f=>
  obtain⟨h1,h2,h3,hf,h4,h5⟩:=h
  refine⟨h1,h2,h3,hf,fun a ha i hi=> ?_,fun ho=> ?_⟩
  ·rcases Nat.eq_zero_or_pos sz with h0|h0
   ·have:=(hf i hi).1
    rw[h0]at this
    rw[List.length_eq_zero_iff.1 this]
    intro k v hk;simp at hk
   ·exact hL (hne a ha (.inr ⟨by omega,h0⟩)) (h4 a ha i hi)
  ·rcases h5 ho with h|⟨b',c,e1,e2,e3,e4⟩
   ·exact .inl h
   ·exact .inr ⟨b',c,e1,e2,by rw[hw b' (hne _ e1 (.inl ho))];exact e3,e4⟩
 |map o k v f st=>obtain⟨b',h1,h2,es,c,h3,h4⟩:=h;exact⟨b',h1,h2,es,c,by rw[hw b' (hne _ h1 (.inr trivial))];exact h3,h4⟩
 |obj o l x0=>obtain⟨b',h1,h2,h3,h4⟩:=h;exact⟨b',h1,h2,h3,by rw[hw b' (hne _ h1 (.inr trivial))];exact h4⟩
theorem bm.write {w':World} {t b:Nat} {v v':Vw} (h:bm θ base hp w) (ht:hp[t]? =some (some v)) (ho:v.own=true) (ho':v'.own=true) {a:Addr} (hb:(θ t).base=some a) (hab:a.block=b)
  (hw: ∀ k,k≠b→w'.heap[k]? =w.heap[k]?) (hv:aX θ base w' (θ t) v'):bm θ base (hp.set t (some v')) w':=by
 have htl:t<hp.length:=(List.getElem?_eq_some_iff.1 ht).1
 have key: ∀ s x,(hp.set t (some v'))[s]? =some (some x)→(s≠t∧hp[s]? =some (some x))∨(s=t∧x=v'):=by
  grind
 refine⟨fun s x hs=> ?_,fun s s' x x' hs hs' hne hx hl c c' hc hc'=> ?_⟩
 ·rcases key s x hs with⟨h1,h2⟩|⟨rfl,rfl⟩
  ·exact(h.vw s x h2).other hw (fun c hc hl=>by have:=h.ne t s v x ht h2 (fun e=>h1 e.symm) ho hl a c hb hc;rw[hab]at this;exact fun e=>this e.symm)
  ·exact hv
 ·rcases key s x hs with⟨h1,h2⟩|⟨rfl,rfl⟩<;>rcases key s' x' hs' with⟨h3,h4⟩|⟨rfl,rfl⟩
  ·exact h.ne s s' x x' h2 h4 hne hx hl c c' hc hc'
  ·exact h.ne s s' x v h2 ht hne hx (.inl ho) c c' hc hc'
  ·exact h.ne s s' v x' ht h4 hne ho hl c c' hc hc'
  ·exact absurd rfl hne
theorem kr {b:Nat} (hb:base≤b) (cs:Array Value):Below base w (w.setRow b cs):=
 ⟨rfl,rfl,rfl,by simp,fun k hk=>setRow_other w b k cs (by omega)⟩
theorem hK {ty:TypeId} {b o:Nat} {el:TypeId} {c:Array Value} {v:SV} {vcs:List SV} (hg:w.heap[b]? =some (.cells c el (0,0))) (hsz:eZ P ty=some vcs.length) (hc:cZ v=some vcs)
  (h1:vcs.all one=true) (hl:o+vcs.length≤c.size):
  (storeVar ty ⟨b,o,none⟩ (den θ v)).run P w= .ok () (w.setRow b (c.toList.take o++ax θ vcs++c.toList.drop (o+vcs.length)).toArray):=by
 unfold storeVar
 have hs:(den θ v).cells.size=vcs.length:=by rw[gJ hc];simp[aC]
 rw[Sem.run_bind,run_sizeOf hsz]
 simp only[Result.andThen_ok,hs,ne_eq,not_true_eq_false,if_false]
 have:=run_storeCells_at (P:=P) b o el (ax θ vcs) 0 c w hg (by simp[aC];omega) (fun u hu=>by
  rw[aC,List.mem_map]at hu
  obtain⟨x,hx,rfl⟩:=hu
  exact one_den (List.all_eq_true.1 h1 x hx))
 grind [gJ,aC]
theorem mz {b:Nat} {cs:List SV} {c:Array Value} {el:TypeId} (hg:w.heap[b]? =some (.cells c el (0,0))) (hs:c.size=cs.length) (hl:eC θ w ⟨b,0,none⟩ 0 cs):c.toList=ax θ cs:=by
 apply List.ext_getElem?
 intro k
 rw[aC,List.getElem?_map]
 cases hk:cs[k]? with
 |none=>
  simp_all
 |some v=>
  have:=hl k v hk
  simp only[at_,Nat.zero_add,World.cell?,hg]at this
  simpa using this
theorem rV {o:Oper} {ds:List Deferred} {ty:TypeId} {p x:Operand} {t j:Nat} {v:SV} {cs vcs:List SV} {A:Nat→Prop} (hI:gM A P gl base θ l hp T w) (ho:o.op= .store ty p x) (hp':ev l p=some (.ptr t j)) (hv:ev l x=some v)
  (ht:bL hp t=some (.box true cs)) (hsz:eZ P ty=some vcs.length) (hc:cZ v=some vcs) (h1:vcs.all one=true) (hle:j+vcs.length≤cs.length):
  ek A P base θ hp w ((execOp (Act.mk T ds).eval o).run P w) (.skip (hp.set t (some (.box true (cs.take j++vcs++cs.drop (j+vcs.length)))))):=by
 refine jr.sm hI (by simp) (fun θ' hh hT=> ?_)
 have htv:=aN ht
 obtain⟨hA,hB⟩:=hh.vw t _ htv
 obtain⟨b,hb,hbb,c,el,hg,hcs⟩:=hB rfl
 have hlen:0+j+vcs.length≤c.size:=by omega
 refine⟨w.setRow b (c.toList.take j++ax θ' vcs++c.toList.drop (j+vcs.length)).toArray, ?_,kr hbb _, ?_⟩
 ·have hs:=hK (P:=P) (θ:=θ') (ty:=ty) (o:=j) hg hsz hc h1 (by omega)
  simp only[execOp,ho,Instr.storeAt,Sem.run_bind,an hT hp',an hT hv,den,hb,Option.map_some,at_,Nat.zero_add,Instr.sureAddr,Sem.run_pure,Result.andThen_ok,hs]
 ·refine hh.write (v':= .box true _) htv rfl rfl hb rfl (fun k hk=>setRow_other w b k _ hk) ?_
  have hnew:(w.setRow b (c.toList.take j++ax θ' vcs++c.toList.drop (j+vcs.length)).toArray).heap[b]? =some (.cells (c.toList.take j++ax θ' vcs++c.toList.drop (j+vcs.length)).toArray el (0,0)):=
   setRow_heap w b c _ el (0,0) hg
  have hcell:cs≠[]→c.toList=ax θ' cs:=fun hn=>by
   grind [mz]
  refine⟨fun hn=>⟨_,hb, ?_⟩,fun _=>⟨b,hb,hbb,_,el,hnew,by simp[aC,hcs]⟩⟩
  intro k u hk
  simp only[at_,Nat.zero_add,World.cell?,hnew]
  have hcs':c.toList=ax θ' cs:=by
   grind
  grind [cP,aC]
theorem rN: ∀ (rows:List (List SV)) (sz:Nat) (hsz: ∀ r∈rows,r.length=sz) (i k:Nat) (v:SV) (hi:i<rows.length),k<sz→rows[i][k]? =some v→rows.flatten[i*sz+k]? =some v
 |[],sz,hsz,i,k,v,hi,hk,h=>by simp at hi
 |r::rows,sz,hsz,0,k,v,hi,hk,h=>by
  grind
 |r::rows,sz,hsz,i+1,k,v,hi,hk,h=>by
  have hr:=hsz r List.mem_cons_self
  have ih:=rN rows sz (fun x hx=>hsz x (List.mem_cons_of_mem _ hx)) i k v (by simpa using hi) hk (by simpa using h)
  grind
theorem yk {el n sz:Nat} {f:Nat→List SV} {rows:List (List SV)} (hb:base≤w.heap.size) (hr:rows.length=n) (hsz: ∀ r∈rows,r.length=sz) (hone: ∀ r∈rows,r.all one=true) (hf: ∀ i,i<n→f i=rows.getD i []) (hm:n≤maxLen):
  aX θ base (w.alloc (.cells (ax θ rows.flatten).toArray el)) ⟨some ⟨w.heap.size,0,none⟩,n,sz⟩ (.row true el n sz f):=by
 have hfl: ∀ i,i<n→(f i).length=sz∧(f i).all one=true:=fun i hi=>by
  grind
 have htot:rows.flatten.length=n*sz:=by
  rw[List.length_flatten]
  have:rows.map List.length=List.replicate n sz:=by
   apply List.ext_getElem
   all_goals simp_all
  rw[this];simp
 refine⟨rfl,Nat.le_refl _,⟨.inr ⟨_,rfl⟩,fun a ha=>by cases ha;rfl⟩,hfl,fun a ha i hi=> ?_,fun _=> .inr ⟨w.heap.size,_,rfl,hb,by show(w.heap.push _)[w.heap.size]? =_;simp;rfl,by simp only[aC,List.size_toArray,List.length_map,htot],hm⟩⟩
 cases ha
 intro k v hk
 have hksz:k<sz:=by have:=(List.getElem?_eq_some_iff.1 hk).1;rw[(hfl i hi).1]at this;exact this
 have hri:i<rows.length:=by omega
 have hfe:f i=rows[i]:=by rw[hf i hi,List.getD_eq_getElem?_getD,List.getElem?_eq_getElem hri,Option.getD_some]
 have:=yu (cs:=rows.flatten) w el θ (i*sz+k) v (rN rows sz hsz i k v hri hksz (hfe▸hk))
 simp_all
def rowsOf:Nat→List (Nat×SV)→Option (List (List SV))
 |_,[]=>some []
 |k,(i,v)::r=>if i==k then match cZ v,rowsOf (k+1) r with
   |some cs,some rs=>some (cs::rs)
   |_,_=>none
  else none
theorem vW {θ:Th} (sz:Nat): ∀ (parts:List (Nat×SV)) (k:Nat) (rs:List (List SV)) (acc:List Value),rowsOf k parts=some rs→(∀ r∈rs,r.length=sz)→(k+rs.length)*sz≤acc.length→
  Instr.fill (fun i=>some (i*sz,sz)) acc.toArray (parts.map fun p=>(p.1,den θ p.2))=some (acc.take (k*sz)++ax θ rs.flatten++acc.drop ((k+rs.length)*sz)).toArray
 |[],k,rs,acc,h,hs,hl=>by
  simp only[rowsOf,Option.some.injEq]at h
  subst h
  simp[Instr.fill,ax]
 |(i,v)::r,k,rs,acc,h,hs,hl=>by
  simp only[rowsOf]at h
  split at h
  ·rename_i hik
   rw[beq_iff_eq]at hik
   subst hik
   split at h
   ·rename_i cs rs' hc hr
    cases h
    have hcl:cs.length=sz:=hs cs List.mem_cons_self
    have hsz:(ax θ cs).toArray.size=sz:=by simp[aC,hcl]
    simp only[List.length_cons]at hl
    have hle:i*sz+sz≤acc.length:=by
     grind
    simp only[List.map_cons,Instr.fill,gJ hc,hsz]
    rw[if_neg (by simp[List.size_toArray];exact hle)]
    have e:((ax θ cs).toArray.zipIdx.foldl (fun cs (c,j)=>cs.setIfInBounds (i*sz+j) c) acc.toArray)=
      (acc.take (i*sz)++ax θ cs++acc.drop (i*sz+sz)).toArray:=by
     have:=pK (ax θ cs) 0 (i*sz) acc.toArray (by simp[aC,hcl];exact hle)
     simp_all
    have hm:(i+1+rs'.length)*sz=(i+(rs'.length+1))*sz:=by congr 1;omega
    have hm2:(i+1)*sz=i*sz+sz:=by rw[Nat.add_mul];omega
    have hm3:(i+(rs'.length+1))*sz=i*sz+sz+rs'.length*sz:=by rw[Nat.add_mul,Nat.add_mul];omega
    have hla:(acc.take (i*sz)++ax θ cs++acc.drop (i*sz+sz)).length=acc.length:=by simp[aC,hcl];omega
    rw[e,vW sz r (i+1) rs' _ hr (fun x hx=>hs x (List.mem_cons_of_mem _ hx)) (by rw[hla,hm];exact hl)]
    have l1:(acc.take (i*sz)++ax θ cs).length=(i+1)*sz:=by simp[aC,hcl];omega
    have e1:(acc.take (i*sz)++ax θ cs++acc.drop (i*sz+sz)).take ((i+1)*sz)=acc.take (i*sz)++ax θ cs:=by
     grind
    have e2:(acc.take (i*sz)++ax θ cs++acc.drop (i*sz+sz)).drop ((i+1+rs'.length)*sz)=acc.drop ((i+(rs'.length+1))*sz):=by
     rw[List.drop_append,List.drop_eq_nil_of_le (by rw[l1,hm,hm3,hm2];omega),List.nil_append,List.drop_drop,l1]
     congr 1
     omega
    grind [aC]
   ·cases h
  ·cases h
end
end Go.Sx
namespace Go.Sx
open Go.RowKit
section
variable {P:Program} {gl:List (Nat×Vw)} {base:Nat} {θ:Th} {l:List (Option SV)} {hp:List (Option Vw)} {T:Array Value} {w:World} {run:Result Next}
theorem wS {ds:List Deferred} (hT:eV θ l T): ∀ {parts:List (Nat×Operand)} {vs:List SV},xm l (parts.map (·.2))=some vs→
  parts.map (fun p=>(p.1,(Act.mk T ds).eval p.2))=((parts.map (·.1)).zip vs).map fun p=>(p.1,den θ p.2)
 |[],vs,h=>by simp[xm]at h;subst h;rfl
 |(i,x)::r,vs,h=>by
  simp only[List.map_cons,xm]at h
  split at h
  ·rename_i v vs' h1 h2
   cases h
   simp only[List.map_cons,List.zip_cons_cons,an hT h1,wS hT h2]
  ·cases h
theorem Bv {o:Oper} {ds:List Deferred} {t el n sz:Nat} {i:TypeInfo} {z:Value} {parts:Array (Nat×Operand)} {vs:List SV} {rows:List (List SV)} {f:Nat→List SV}
  {θ:Th} (hT0:eV θ l T)
  (ho:o.op= .buildSlice t n parts) (hu:P.underlying t=some (.slice el)) (hi:P.info? el=some i) (hz:i.zero=some z) (hzs:z.cells.size=i.size) (hsz:i.size=sz) (hn:0<sz) (hn2:n*sz≤16777216)
  (hv:xm l (parts.toList.map (·.2))=some vs) (hr:rowsOf 0 ((parts.toList.map (·.1)).zip vs)=some rows) (hl:rows.length=n) (hall:rows.all (fun r=>r.length==sz&&r.all one)=true) (hf: ∀ i,i<n→f i=rows.getD i []):
  pS base l hp T w ((execOp (Act.mk T ds).eval o).run P w) (.sl hp.length n) (.row true el n sz f):=by
 have hs1: ∀ r∈rows,r.length=sz:=fun r hr=>by have:=List.all_eq_true.1 hall r hr;simp at this;exact this.1
 have hs2: ∀ r∈rows,r.all one=true:=fun r hr=>by have:=List.all_eq_true.1 hall r hr;simp only[Bool.and_eq_true]at this;exact this.2
 have htot: ∀ θ',(ax θ' rows.flatten).length=n*sz:=fun θ'=>by
  rw[aC,List.length_map,List.length_flatten]
  have:rows.map List.length=List.replicate n sz:=by
   apply List.ext_getElem
   all_goals simp_all
  rw[this];simp
 have hrun: ∀ θ',eV θ' l T→(execOp (Act.mk T ds).eval o).run P w= .ok (.value (.slice (some ⟨w.heap.size,0,none⟩) n n)) (w.alloc (.cells (ax θ' rows.flatten).toArray el)):=fun θ' hT=>by
  have hfill:=vW (θ:=θ') sz ((parts.toList.map (·.1)).zip vs) 0 rows ((Array.range (n*sz)).map (z.cells[· %z.cells.size]!)).toList hr hs1 (by simp[hl])
  simp only[Nat.zero_mul,List.take_zero,List.nil_append,Nat.zero_add,hl]at hfill
  rw[List.drop_eq_nil_of_le (by simp),List.append_nil]at hfill
  have hp1:=wS (ds:=ds) hT hv
  have hn3: ¬(n*sz>2^24):=by omega
  have hpa:(parts.map fun x=>(x.1,(Act.mk T ds).eval x.2)).toList=((parts.toList.map (·.1)).zip vs).map fun p=>(p.1,den θ' p.2):=by
   simp_all
  simp only[execOp,ho,Instr.buildSlice,Sem.run_bind,ar hu,Result.andThen_ok,sizeOf,typeInfo,run_program,hi,Sem.run_pure,hsz,hn3,if_false]
  rw[Array.toArray_toList]at hfill
  by_cases hn4:n*sz=0
  ·have hz0: ∀ g:Nat→Value,(Array.range (n*sz)).map g= #[]:=fun g=>by rw[hn4];simp
   rw[hz0]at hfill
   simp only[hn4,if_true,Sem.run_bind,Sem.run_pure,Result.andThen_ok]
   rw[hpa]
   have hz1: ∀ g:Nat→Value,(Array.range 0).map g= #[]:=fun g=>by simp
   rw[hz1]
   rw[hfill]
   rfl
  ·simp only[hn4,if_false,zeroValue,Sem.run_bind,run_program,typeInfo,hi,hz,Sem.run_pure,Result.andThen_ok]
   rw[hpa]
   rw[hfill]
   rfl
 refine⟨.slice (some ⟨w.heap.size,0,none⟩) n n,w.alloc (.cells (ax θ rows.flatten).toArray el),⟨some ⟨w.heap.size,0,none⟩,n,sz⟩,hrun θ hT0,bR _ _,fun a ha=>by cases ha;exact Nat.le_refl _,fun θ' hh ht hd=>⟨by simp[den,hd], ?_⟩⟩
 have h1:=hrun θ hT0
 rw[hrun θ' ht]at h1
 injection h1 with _ h1
 rw[←h1]
 exact yk (Nat.le_refl _) hl hs1 hs2 hf (by have:n≤n*sz:=Nat.le_mul_of_pos_right _ hn;unfold maxLen;omega)
theorem yo {o:Oper} {ds:List Deferred} {t el sz:Nat} {i:TypeInfo} {z:Value} {x y:Operand} {k k':IntKind} {n:Int} {θ:Th} (hT0:eV θ l T)
  (ho:o.op= .makeSlice t x y) (hu:P.underlying t=some (.slice el)) (hi:P.info? el=some i) (hz:i.zero=some z) (hzs:z.cells.size=i.size) (hsz:i.size=sz) (h0:0<sz)
  (hx:ev l x=some (.val (.int k n))) (hy:ev l y=some (.val (.int k' n))) (hall:(z.cells.toList.map SV.val).all one=true) (hn0:0≤n) (hb:(i.bytes:Int)*n≤281474976710656) (h63:n≤9223372036854775807):
  pS base l hp T w ((execOp (Act.mk T ds).eval o).run P w) (.sl hp.length n.toNat) (.row true el n.toNat sz (fun _=>z.cells.toList.map .val)):=by
 subst hsz
 have hrun:=fun θ' (hT:eV θ' l T)=>run_make (P:=P) (w:=w) t el i z hu hi hz k k' n n hn0 (Int.le_refl _) hb h63
 refine⟨.slice (some ⟨w.heap.size,0,none⟩) n.toNat n.toNat,w.alloc (.cells (madeCells z.cells (n.toNat*i.size)) el),⟨some ⟨w.heap.size,0,none⟩,n.toNat,i.size⟩, ?_,bR _ _,fun a ha=>by cases ha;exact Nat.le_refl _,fun θ' hh ht hd=>⟨by simp[den,hd], ?_⟩⟩
 ·have hT:=hT0
  simp only[execOp,ho,an hT hx,an hT hy,den,Sem.run_bind,hrun θ hT,Result.andThen_ok,Sem.run_pure]
 ·refine⟨rfl,Nat.le_refl _,⟨.inr ⟨_,rfl⟩,fun a ha=>by cases ha;rfl⟩,fun j hj=>⟨by simpa using hzs,hall⟩,fun a ha j hj=> ?_,fun _=> .inr ⟨w.heap.size,_,rfl,Nat.le_refl _,by show(w.heap.push _)[w.heap.size]? =_;simp;rfl,by simp[madeCells],by show n.toNat≤maxLen;unfold maxLen;omega⟩⟩
  cases ha
  intro q v hq
  have hqz:q<i.size:=by have:=(List.getElem?_eq_some_iff.1 hq).1;simpa[hzs]using this
  have hlt:j*i.size+q<n.toNat*i.size:=by
   have:(j+1)*i.size≤n.toNat*i.size:=Nat.mul_le_mul_right _ hj
   grind
  show World.cell? _ ⟨w.heap.size,0+(j*i.size+q),none⟩=_
  rw[Nat.zero_add,World.cell?_alloc_new]
  have hmod:(j*i.size+q)%z.cells.size=q:=by rw[hzs,Nat.add_comm,Nat.add_mul_mod_self_right,Nat.mod_eq_of_lt hqz]
  rw[List.getElem?_map]at hq
  cases hc:z.cells.toList[q]? with
  |none=>simp[hc]at hq
  |some u=>
   simp[hc]at hq
   subst hq
   have hc':z.cells[q]? =some u:=by simpa using hc
   simp[madeCells,hlt,hmod,den]
   simp_all
theorem bm.JF {w':World} {t:Nat} {v v':Vw} {d:Ad} (h:bm θ base hp w) (ht:hp[t]? =some (some v)) (ho:v.own=true) (hg: ∀ k,k<w.heap.size→(∀ a,(θ t).base=some a→a.block≠k)→w'.heap[k]? =w.heap[k]?)
  (hd:θ hp.length=d) (hv:aX θ base w' d v') (hnew: ∀ a,d.base=some a→w.heap.size≤a.block∨ ∃ a',(θ t).base=some a'∧a'.block=a.block):
  bm θ base (hp.set t none++[some v']) w':=by
 have htl:t<hp.length:=(List.getElem?_eq_some_iff.1 ht).1
 have key: ∀ s x,(hp.set t none++[some v'])[s]? =some (some x)→(hp[s]? =some (some x)∧s≠t∧s<hp.length)∨(s=hp.length∧x=v'):=by
  grind
 have hkeep: ∀ s x,hp[s]? =some (some x)→s≠t→aX θ base w' (θ s) x:=fun s x hs hne=>by
  have hx:=h.vw s x hs
  have hL: ∀ {a:Addr} {j:Nat} {cs:List SV},(x.own=true∨x.live)→(θ s).base=some a→eC θ w a j cs→eC θ w' a j cs:=fun {a} {j} {cs} hl ha hlie k v hk=>by
   have hlt:=World.block_lt_of_cell? w _ (hlie k v hk)
   rw[←hlie k v hk]
   exact World.cell?_of_block (hg _ hlt (fun a' ha'=>h.ne t s _ x ht hs (fun e=>hne e.symm) ho hl a' a ha' ha))
  have hB: ∀ {b:Nat} {y:Obj},x.own=true→(θ s).base=some ⟨b,0,none⟩→w.heap[b]? =some y→w'.heap[b]? =some y:=fun hl ha hb=>by
   rw[hg _ (Array.getElem?_eq_some_iff.1 hb).1 (fun a' ha'=>h.ne t s _ x ht hs (fun e=>hne e.symm) ho (.inl hl) a' _ ha' ha)]
   exact hb
  cases x with
  |box o cs=>
   refine⟨fun hn=> ?_,fun ho'=> ?_⟩
   ·obtain⟨a,ha,hlie⟩:=hx.1 hn;exact⟨a,ha,hL (.inr hn) ha hlie⟩
   ·obtain⟨b,h1,h2,c,el,h3,h4⟩:=hx.2 ho';exact⟨b,h1,h2,c,el,hB ho' h1 h3,h4⟩
  |row o el n sz f=>
   obtain⟨h1,h2,h3,hf,h4,h5⟩:=hx
   refine⟨h1,h2,h3,hf,fun a ha i hi=> ?_,fun ho'=> ?_⟩
   ·rcases Nat.eq_zero_or_pos sz with h0|h0
    ·have:=(hf i hi).1
     rw[h0]at this
     rw[List.length_eq_zero_iff.1 this]
     intro k v hk;simp at hk
    ·exact hL (.inr ⟨by omega,h0⟩) ha (h4 a ha i hi)
   ·rcases h5 ho' with h|⟨b,c,e1,e2,e3,e4⟩
    ·exact .inl h
    ·exact .inr ⟨b,c,e1,e2,hB ho' e1 e3,e4⟩
  |map o k v f st=>
   obtain⟨b,h1,h2,es,c,h3,h4⟩:=hx
   exact⟨b,h1,h2,es,c,by rw[hg _ (Array.getElem?_eq_some_iff.1 h3).1 (fun a' ha'=>h.ne t s _ _ ht hs (fun e=>hne e.symm) ho (.inr trivial) a' _ ha' h1)];exact h3,h4⟩
  |obj o l x0=>
   obtain⟨b,h1,h2,h3,h4⟩:=hx
   exact⟨b,h1,h2,h3,by rw[hg _ (Array.getElem?_eq_some_iff.1 h4).1 (fun a' ha'=>h.ne t s _ _ ht hs (fun e=>hne e.symm) ho (.inr trivial) a' _ ha' h1)];exact h4⟩
 refine⟨fun s x hs=> ?_,fun s s' x x' hs hs' hne hx hl c c' hc hc'=> ?_⟩
 ·grind
 ·rcases key s x hs with⟨h1,h2, -⟩|⟨rfl,rfl⟩<;>rcases key s' x' hs' with⟨h3,h4, -⟩|⟨rfl,rfl⟩
  ·exact h.ne s s' x x' h1 h3 hne hx hl c c' hc hc'
  ·rw[hd]at hc'
   rcases hnew c' hc' with h5|⟨a',h5,h6⟩
   ·have:=(h.vw s x h1).lt hc (.inl hx);omega
   ·rw[←h6];exact h.ne s t x v h1 ht h2 hx (.inl ho) c a' hc h5
  ·rw[hd]at hc
   rcases hnew c hc with h5|⟨a',h5,h6⟩
   ·have:=(h.vw s' x' h3).lt hc' hl;omega
   ·rw[←h6];exact h.ne t s' v x' ht h3 (fun e=>h4 e.symm) ho hl a' c' h5 hc'
  ·exact absurd rfl hne
theorem FI {c:List Value} {n sz:Nat} {f:Nat→List SV} (h: ∀ i,i<n→(f i).length=sz∧ ∀ (k:Nat) (v:SV),(f i)[k]? =some v→c[i*sz+k]? =some (den θ v)) (i k:Nat) (v:SV) (hi:i<n) (hk:(f i)[k]? =some v):
  (c.take (n*sz))[i*sz+k]? =some (den θ v):=by
 have hksz:k<sz:=by have:=(List.getElem?_eq_some_iff.1 hk).1;rw[(h i hi).1]at this;exact this
 rw[List.getElem?_take,if_pos (by have:(i+1)*sz≤n*sz:=Nat.mul_le_mul_right _ hi
                                  rw[Nat.add_mul]at this;omega)]
 exact(h i hi).2 k v hk
structure xj (P:Program) (t el sz:Nat) (bytes:Nat):Prop where
 u:P.underlying t=some (.slice el)
 info: ∃ i z,P.info? el=some i∧i.zero=some z∧i.size=sz∧i.bytes=bytes∧z.cells.size=sz
 pos:0<sz
theorem qK (base:Nat) (t ty e:TypeId) (i:TypeInfo) (size:Nat) (ht:P.underlying t=some (.slice e)) (hi:P.info? e=some i)
  (v:Value) (n:Nat) (xs:List Value) (hown:w.ownsRow base e size v n xs) (c:Nat):
  (Builtin.append_ #[t,t] ty #[v, .slice none 0 c]).run P w= .ok v w:=by
 rcases hown.2 with⟨rfl,rfl⟩|⟨g,cap,cur,rfl,_,_,hnc,_⟩
 ·simp[Builtin.append_,run_underlying ht,sizeOf,typeInfo,hi,Builtin.lenOf,Builtin.firstCells]
 ·simp[Builtin.append_,run_underlying ht,sizeOf,typeInfo,hi,Builtin.lenOf,Builtin.firstCells,hnc,storeCells]
theorem uD {t el sz bytes n m:Nat} {ty:TypeId} {f f' f'':Nat→List SV} {d dx:Ad} {own:Bool} {elx:TypeId} (hA:xj P t el sz bytes) (hsz:base≤w.heap.size)
  (h1:aX θ base w d (.row true el n sz f)) (h2:aX θ base w dx (.row own elx m sz f')) (hb:(n+m)*bytes≤140737488355328) (hm:n+m≤maxLen):
  ∃ v' w' d',(Builtin.append_ #[t,t] ty #[.slice d.base n d.cap, .slice dx.base m dx.cap]).run P w= .ok v' w'∧v'= .slice d'.base (n+m) d'.cap∧Below base w w'∧
    (∀ k,k<w.heap.size→(∀ a,d.base=some a→a.block≠k)→w'.heap[k]? =w.heap[k]?)∧(∀ a,d'.base=some a→w.heap.size≤a.block∨ ∃ a',d.base=some a'∧a'.block=a.block)∧
    (∀ θ',aX θ' base w d (.row true el n sz f)→aX θ' base w dx (.row own elx m sz f')→(∀ i,i<n+m→f'' i=if i<n then f i else f' (i-n))→aX θ' base w' d' (.row true el (n+m) sz f'')):=by
 obtain⟨i,z,hi,hz,hisz,hby,hzs⟩:=hA.info
 obtain⟨g1,g2,g3,g4,g5,g6⟩:=h1
 have hown: ∃ xs,w.ownsRow base el sz (.slice d.base n d.cap) n xs∧ ∀ θ',aX θ' base w d (.row true el n sz f)→ ∀ (i k:Nat) (v:SV),i<n→(f i)[k]? =some v→xs[i*sz+k]? =some (den θ' v):=by
  rcases g6 rfl with⟨hb0,hc0⟩|⟨b,c,e1,e2,e3,e4,e5⟩
  ·have hn0:n=0:=by omega
   subst hn0
   exact⟨[],by rw[hb0,hc0];exact World.ownsRow_nil w base el sz,fun _ _ i k v hlt=>by omega⟩
  ·refine⟨c.toList.take (n*sz),⟨by rw[List.length_take,Array.length_toList,e4];exact Nat.min_eq_left (Nat.mul_le_mul_right _ g2), .inr ⟨b,d.cap,c,by rw[e1],e2,e3,g2,e5,e4,rfl⟩⟩,fun θ' hv i k v hlt hk=> ?_⟩
   obtain⟨-, -, -,k4,k5, -⟩:=hv
   refine FI (f:=f) (fun i hi=>⟨(k4 i hi).1,fun k v hk=> ?_⟩) i k v hlt hk
   have:=k5 _ e1 i hi k v hk
   simp only[at_,Nat.zero_add,World.cell?,e3]at this
   simpa using this
 obtain⟨xs,hown,hxs⟩:=hown
 have hxl:xs.length=n*sz:=hown.1
 obtain⟨x1,x2,x3,x4,x5,x6⟩:=h2
 have hfin: ∀ (v':Value) (w':World) (news:List Value),news.length=m*sz→w'.ownsRow base el sz v' (n+m) (xs++news)→w.grownBy w' (Value.slice d.base n d.cap).ownBlock→
   (v'.ownBlock=(Value.slice d.base n d.cap).ownBlock∨v'.ownBlock=some w.heap.size)→
   (∀ θ',aX θ' base w dx (.row own elx m sz f')→ ∀ (i k:Nat) (v:SV),i<m→(f' i)[k]? =some v→news[i*sz+k]? =some (den θ' v))→
   ∃ d':Ad,v'= .slice d'.base (n+m) d'.cap∧Below base w w'∧
   (∀ k,k<w.heap.size→(∀ a,d.base=some a→a.block≠k)→w'.heap[k]? =w.heap[k]?)∧(∀ a,d'.base=some a→w.heap.size≤a.block∨ ∃ a',d.base=some a'∧a'.block=a.block)∧
   (∀ θ',aX θ' base w d (.row true el n sz f)→aX θ' base w dx (.row own elx m sz f')→(∀ i,i<n+m→f'' i=if i<n then f i else f' (i-n))→aX θ' base w' d' (.row true el (n+m) sz f'')):=by
  intro v' w' news hnl hown' hgrow hblk hnews
  have hbel:Below base w w':=(Below.refl base w).grown hgrow hsz (fun k hk=>by
   cases hdb:d.base with
   |none=>simp[Value.ownBlock,hdb]at hk
   |some a=>
    simp[Value.ownBlock,hdb]at hk
    rcases g6 rfl with⟨hb0, -⟩|⟨b,c,e1,e2, -⟩
    ·rw[hb0]at hdb;cases hdb
    ·rw[e1]at hdb;cases hdb;simp at hk;omega)
  have hkeep: ∀ k,k<w.heap.size→(∀ a,d.base=some a→a.block≠k)→w'.heap[k]? =w.heap[k]? :=fun k hk hne=>hgrow.block k hk (fun e=>by
   cases hdb:d.base with
   |none=>simp[Value.ownBlock,hdb]at e
   |some a=>simp[Value.ownBlock,hdb]at e;exact hne a hdb e.symm)
  have hrow: ∀ θ',aX θ' base w d (.row true el n sz f)→aX θ' base w dx (.row own elx m sz f')→(∀ i,i<n+m→f'' i=if i<n then f i else f' (i-n))→
    (∀ i,i<n+m→(f'' i).length=sz∧(f'' i).all one=true)∧ ∀ (i k:Nat) (v:SV),i<n+m→(f'' i)[k]? =some v→(xs++news)[i*sz+k]? =some (den θ' v):=by
   intro θ' hv1 hv2 hf
   have hv1':=hv1
   obtain⟨-, -, -,k4, -, -⟩:=hv1
   have hv2':=hv2
   obtain⟨-, -, -,l4, -, -⟩:=hv2
   have hfl: ∀ i,i<n+m→(f'' i).length=sz∧(f'' i).all one=true:=fun i hi=>by
    grind
   refine⟨hfl,fun i k v hi hk=> ?_⟩
   have hksz:k<sz:=by have:=(List.getElem?_eq_some_iff.1 hk).1;rw[(hfl i hi).1]at this;exact this
   rw[hf i hi]at hk
   split at hk
   ·grind
   ·rename_i hge
    have hge':n*sz≤i*sz:=Nat.mul_le_mul_right _ (by omega)
    rw[List.getElem?_append_right (by omega),hxl]
    have:=hnews θ' hv2' (i-n) k v (by omega) hk
    rw[Nat.sub_mul]at this
    rw[show i*sz+k-n*sz=i*sz-n*sz+k by omega]
    exact this
  rcases hown'.2 with⟨rfl,hnm⟩|⟨g,cap,cur,rfl,q1,q2,q3,q4,q5,q6⟩
  ·refine⟨⟨none,0,sz⟩,by rw[hnm],hbel,hkeep,fun a ha=>(by cases ha),fun θ' hv1 hv2 hf=>⟨rfl,by show n+m≤0;omega,⟨.inl hnm,fun a ha=>(by cases ha)⟩,(hrow θ' hv1 hv2 hf).1,fun a ha=>(by cases ha),fun _=> .inl ⟨rfl,rfl⟩⟩⟩
  ·refine⟨⟨some ⟨g,0,none⟩,cap,sz⟩,rfl,hbel,hkeep,fun a ha=> ?_,fun θ' hv1 hv2 hf=>⟨rfl,q3,⟨.inr ⟨_,rfl⟩,fun a ha=>by cases ha;rfl⟩,(hrow θ' hv1 hv2 hf).1,fun a ha i hi k v hk=> ?_,fun _=> .inr ⟨g,cur,rfl,q1,q2,q5,q4⟩⟩⟩
   ·cases ha
    simp only[Value.ownBlock]at hblk
    grind
   ·cases ha
    have:=(hrow θ' hv1 hv2 hf).2 i k v hi hk
    rw[←q6]at this
    show World.cell? _ ⟨g,0+(i*sz+k),none⟩=_
    rw[Nat.zero_add]
    simp only[World.cell?,q2]
    grind
 cases hxb:dx.base with
 |none=>
  have hm0:m=0:=by
   simp_all
  subst hm0
  have hr:=qK (P:=P) (w:=w) base t ty el i sz hA.u hi (.slice d.base n d.cap) n xs hown dx.cap
  obtain⟨d',q⟩:=hfin _ w [] (by simp) (by simpa using hown) ⟨rfl,rfl,rfl,Nat.le_refl _,fun _ _ _=>rfl⟩ (.inl rfl) (fun _ _ i k v hlt=>by omega)
  exact⟨_,w,d',hr,q⟩
 |some a=>
  have hcell: ∀ j,j<m*sz→ ∃ u,w.cell? (at_ a j)=some u∧u.oneCell'=true:=fun j hj=>by
   have hi':j/sz<m:=Nat.div_lt_of_lt_mul (by rw[Nat.mul_comm];exact hj)
   have hk:j%sz<sz:=Nat.mod_lt _ hA.pos
   have hlen:=(x4 (j/sz) hi').1
   have hx:(f' (j/sz))[j%sz]? =some ((f' (j/sz))[j%sz]'(by rw[hlen];exact hk)):=List.getElem?_eq_getElem _
   have:=x5 a hxb (j/sz) hi' _ _ hx
   rw[show j/sz*sz+j%sz=j by rw[Nat.mul_comm];exact Nat.div_add_mod j sz]at this
   grind [one_den]
  have hspot: ∀ j,j<m*sz→w.cell? (a.add j)=w.cell? (at_ a j):=fun j hj=>by
   unfold Addr.add at_
   split
   ·rename_i h0
    subst h0
    obtain⟨u,hu, -⟩:=hcell 0 hj
    have hs:=x3.2 a hxb
    cases a;simp_all
   ·rfl
  obtain⟨v',w',hr,ho',hg', -,hb'⟩:=run_append_own_at (P:=P) (w:=w) base t ty el i z sz bytes hA.u hi hz hisz hby hzs hA.pos (.slice d.base n d.cap) n xs hown a m dx.cap
   ((List.range (m*sz)).map fun j=>(w.cell? (at_ a j)).getD undef) (by simp) (fun j u hj=>by
     rw[List.getElem?_map]at hj
     cases hjr:(List.range (m*sz))[j]? with
     |none=>simp[hjr]at hj
     |some j'=>
      obtain⟨hlt,e⟩:=List.getElem?_eq_some_iff.1 hjr
      simp at e;subst e
      simp[hjr]at hj
      have hlt':j<m*sz:=by simpa using hlt
      rw[hspot j hlt']
      obtain⟨u',hu', -⟩:=hcell j hlt'
      rw[hu']at hj⊢
      simpa using hj) (fun u hu=>by
     rw[List.mem_map]at hu
     obtain⟨j,hj,rfl⟩:=hu
     obtain⟨u',hu',h1⟩:=hcell j (by simpa using hj)
     rw[hu'];exact h1) hm hb hsz
  obtain⟨d',q⟩:=hfin v' w' _ (by simp) ho' hg' hb' (fun θ' hv2 i k v hi hk=>by
   obtain⟨-, -, -,l4,l5, -⟩:=hv2
   have hksz:k<sz:=by have:=(List.getElem?_eq_some_iff.1 hk).1;rw[(l4 i hi).1]at this;exact this
   have hlt:i*sz+k<m*sz:=by
    have:(i+1)*sz≤m*sz:=Nat.mul_le_mul_right _ hi
    grind
   rw[List.getElem?_map,List.getElem?_range hlt]
   simp[l5 a hxb i hi k v hk])
  exact⟨v',w',d',hr,q⟩
end
end Go.Sx
namespace Go.Sx
open Go.RowKit Go.MapKept
section
variable {P:Program} {w:World} {es:Array MapEntry} {c b:Nat} {k v:IntKind} {f:Int→Int} {st:List (Int×Int)} {t kt et:TypeId}
theorem pD {a:Int}: ∀ {l:List MapEntry},(∀ e∈l, ∃ a x,e.key= .int k a∧e.val= .int v x)→(∀ e∈l,e.key≠ .int k a)→dF a l=none
 |[],_,_=>rfl
 |e::r,h,hn=>by
  obtain⟨b,x,h1,h2⟩:=h e (.head _)
  have h3:=hn e (.head _)
  obtain⟨ke,ve,bn⟩:=e
  simp only at h1 h2 h3
  subst h1 h2
  have hb:b≠a:=fun e=>h3 (by rw[e])
  rw[dF,if_neg hb]
  exact pD (fun e he=>h e (.tail _ he)) (fun e he=>hn e (.tail _ he))
theorem dE {a x:Int} {e:MapEntry}: ∀ {l:List MapEntry},(∀ e∈l, ∃ a x,e.key= .int k a∧e.val= .int v x)→(l.map (·.key)).Nodup→e∈l→e.key= .int k a→e.val= .int v x→dF a l=some x
 |[],_,_,h,_,_=>by cases h
 |e'::r,h,hn,hm,hk,hv=>by
  obtain⟨b,y,h1,h2⟩:=h e' (.head _)
  rw[List.map_cons,List.nodup_cons]at hn
  rcases List.mem_cons.1 hm with rfl|hm
  ·obtain⟨ke,ve,bn⟩:=e
   grind [dF]
  ·have hb:b≠a:=by
    grind
   have ih:=dE (fun e he=>h e (.tail _ he)) hn.2 hm hk hv
   obtain⟨ke,ve,bn⟩:=e'
   grind [dF]
theorem Ee (h: ∀ e∈es.toList, ∃ a x,e.key= .int k a∧e.val= .int v x): ∀ x∈es.toList,IsKey (.int k) x.key:=fun e he=>by
 obtain⟨a,x,h1, -⟩:=h e he
 rw[h1];rfl
theorem yn:uI #[] 0 k v (fun _=>0) []:=⟨MapKept.stamped_empty 0,by simp,fun a=>rfl,by simp⟩
theorem zM {a:Int} (hm:P.underlying t=some (.map kt et)) (hd:P.underlying kt=some (.int k)) (hz:(P.info? et).bind (·.zero)=some (.int v 0)) (hb:w.heap[b]? =some (.map es c)) (h:uI es c k v f st):
  (Instr.lookup t (.map (some b)) (.int k a) false).run P w= .ok (.int v (f a)) w:=by
 obtain⟨hs,h1,h2, -⟩:=h
 have hka:IsKey (.int k) (.int k a):=rfl
 rcases MapKept.findNow_spec hka es.toList 0 (Ee h1)with⟨e1,e2⟩|⟨j,e,e1,e2,e3⟩
 ·have hf:f a=0:=by rw[←h2 a,pD h1 e2];rfl
  obtain⟨i,hi,hi2⟩:=Option.bind_eq_some_iff.1 hz
  simp only[Instr.lookup,Sem.run_bind,run_underlying hm,MapKept.run_getObj_map hb,Sem.run_pure,MapKept.run_checkKey hd hka,MapKept.run_findKey hd e1,Result.andThen_ok,zeroValue,typeInfo,run_program,hi,hi2,hf,Bool.false_eq_true,if_false]
 ·have hmem:e∈es.toList:=List.mem_of_getElem? e2
  obtain⟨a',x,g1,g2⟩:=h1 e hmem
  have hf:f a=x:=by rw[←h2 a,dE h1 hs.2.2 hmem e3 g2];rfl
  simp only[Instr.lookup,Sem.run_bind,run_underlying hm,MapKept.run_getObj_map hb,Sem.run_pure,MapKept.run_checkKey hd hka,MapKept.run_findKey hd e1,Result.andThen_ok,g2,hf,Bool.false_eq_true,if_false]
theorem qn {a:Int} {r:List MapEntry}: ∀ {l:List MapEntry},(∀ e∈l, ∃ a x,e.key= .int k a∧e.val= .int v x)→dF a (l++r)=(dF a l).or (dF a r)
 |[],_=>rfl
 |e::l,h=>by
  obtain⟨b,x,h1,h2⟩:=h e (.head _)
  obtain⟨ke,ve,bn⟩:=e
  simp only at h1 h2
  subst h1 h2
  show dF a (_::(l++r))=_
  by_cases hb:b=a
  ·grind [dF]
  ·rw[dF,if_neg hb,dF,if_neg hb]
   exact qn (fun e he=>h e (.tail _ he))
theorem iO {a x:Int}: ∀ {l:List MapEntry},(∀ e∈l, ∃ a x,e.key= .int k a∧e.val= .int v x)→dF a l=some x→ ∃ e∈l,e.key= .int k a∧e.val= .int v x
 |[],_,h=>by cases h
 |e::r,h,hm=>by
  obtain⟨b,y,h1,h2⟩:=h e (.head _)
  obtain⟨ke,ve,bn⟩:=e
  simp only at h1 h2
  subst h1 h2
  rw[dF]at hm
  split at hm
  ·simp_all
  ·obtain⟨e,he,g⟩:=iO (fun e he=>h e (.tail _ he)) hm
   exact⟨e, .tail _ he,g⟩
theorem tU {s a x:Int} (hb:w.heap[b]? =some (.map es c)) (h:uI es c k v f ((s,a)::st)):
  ∃ (es':Array MapEntry),(Instr.entryStore t (.map (some b)) (.int .i64 s) (.int v x)).run P w= .ok () {w with heap:=w.heap.setIfInBounds b (.map es' c)}∧uI es' c k v (fun a'=>if a'=a then x else f a') ((s,a)::st):=by
 obtain⟨hs,h1,h2,h3⟩:=h
 obtain⟨e,he,g1,g2⟩:=h3 _ (.head _)
 simp only at g1 g2
 obtain⟨j,hj⟩:=List.mem_iff_getElem?.1 he
 have hj0:es[j]? =some e:=by simpa using hj
 have hborn: ∀ i e',es[i]? =some e'→e'.born=e.born→i=j:=by
  intro i e' hi hbe
  have h1:(es.toList.map (·.born))[i]? =some e.born:=by simp[hi,hbe]
  have h2:(es.toList.map (·.born))[j]? =some e.born:=by simp[hj0]
  exact(List.getElem?_inj (List.getElem?_eq_some_iff.1 h1).1 hs.2.1).1 (h1.trans h2.symm)
 have hidx:es.findIdx? (fun e=>(e.born:Int)==s)=some j:=by
  rw[Array.findIdx?_eq_some_iff_getElem]
  obtain⟨hlt,hje⟩:=Array.getElem?_eq_some_iff.1 hj0
  refine⟨hlt,by rw[hje];simp[g1],fun i hi=> ?_⟩
  simp only[Bool.not_eq_true,beq_eq_false_iff_ne,ne_eq]
  intro hii
  have:=hborn i _ (Array.getElem?_eq_getElem (by omega)) (by omega)
  omega
 have hj':es[j]? =some e:=by simpa using hj
 have hmod: ∀ i,(es.modify j fun e=>{e with val:= .int v x})[i]? =if j=i then(es[i]?).map (fun e=>{e with val:= .int v x})else es[i]? :=fun i=>Array.getElem?_modify
 have hall: ∀ e'∈(es.modify j fun e=>{e with val:= .int v x}).toList, ∃ a x,e'.key= .int k a∧e'.val= .int v x:=by
  intro e' he'
  obtain⟨i,hi⟩:=List.mem_iff_getElem?.1 he'
  rw[Array.getElem?_toList,hmod]at hi
  split at hi
  ·grind
  ·exact h1 e' (by rw[←Array.getElem?_toList]at hi;exact List.mem_of_getElem? hi)
 have hst:=MapKept.stamped_modify hs j (fun e=>{e with val:= .int v x}) (fun _ _=>rfl) (fun _ _ _=>rfl)
 refine⟨es.modify j fun e=>{e with val:= .int v x}, ?_,hst,hall,fun a'=> ?_,fun p hp=> ?_⟩
 ·simp[Instr.entryStore,MapKept.run_getObj_map hb,hidx,MapKept.run_setObj_map _ hb,Result.andThen,asInt,asIntOf]
 ·show _=if a'=a then x else f a'
  by_cases ha:a'=a
  ·subst ha
   rw[if_pos rfl]
   have hmem:({e with val:= .int v x}:MapEntry)∈(es.modify j fun e=>{e with val:= .int v x}).toList:=by
    grind
   rw[dE hall hst.2.2 hmem g2 rfl];rfl
  ·rw[if_neg ha,←h2 a']
   cases hq:dF a' es.toList with
   |some y=>
    obtain⟨e',he',k1,k2⟩:=iO h1 hq
    obtain⟨i,hi⟩:=List.mem_iff_getElem?.1 he'
    have hij:j≠i:=by
     grind
    have hmem:e'∈(es.modify j fun e=>{e with val:= .int v x}).toList:=by
     grind
    rw[dE hall hst.2.2 hmem k1 k2]
   |none=>
    cases hq':dF a' (es.modify j fun e=>{e with val:= .int v x}).toList with
    |none=>rfl
    |some y=>
     obtain⟨e',he',k1,k2⟩:=iO hall hq'
     obtain⟨i,hi⟩:=List.mem_iff_getElem?.1 he'
     rw[Array.getElem?_toList,hmod]at hi
     split at hi
     ·grind
     ·rw[←Array.getElem?_toList]at hi
      have:=dE h1 hs.2.2 (List.mem_of_getElem? hi) k1 k2
      rw[hq]at this;cases this
 ·obtain⟨e',he',k1,k2⟩:=h3 p hp
  obtain⟨i,hi⟩:=List.mem_iff_getElem?.1 he'
  grind
theorem uX {a x:Int} (hm:P.underlying t=some (.map kt et)) (hd:P.underlying kt=some (.int k)) (hb:w.heap[b]? =some (.map es c)) (h:uI es c k v f st):
  ∃ (es':Array MapEntry) (c':Nat),(Instr.mapUpdate t (.map (some b)) (.int k a) (.int v x)).run P w= .ok () {w with heap:=w.heap.setIfInBounds b (.map es' c')}∧uI es' c' k v (fun a'=>if a'=a then x else f a') []:=by
 obtain⟨hs,h1,h2,h3⟩:=h
 have hka:IsKey (.int k) (.int k a):=rfl
 rcases MapKept.findNow_spec hka es.toList 0 (Ee h1)with⟨e1,e2⟩|⟨j,e,e1,e2,e3⟩
 ·refine⟨es.push {key:= .int k a,val:= .int v x,born:=c},c+1, ?_,MapKept.stamped_push hs e2,fun e he=> ?_,fun a'=> ?_,fun p hp=>by cases hp⟩
  ·simp[Instr.mapUpdate,run_underlying hm,MapKept.run_getObj_map hb,MapKept.run_checkKey hd hka,MapKept.run_findKey hd e1,MapKept.run_setObj_map _ hb,Result.andThen]
  ·grind
  ·rw[Array.toList_push,qn h1]
   have:=h2 a'
   show _=if a'=a then x else f a'
   by_cases ha:a'=a
   ·subst ha
    rw[if_pos rfl,pD h1 e2]
    grind [dF]
   grind [dF]
 ·have hmem:e∈es.toList:=List.mem_of_getElem? e2
  have hj:es[j]? =some e:=by simpa using e2
  have hall: ∀ e'∈(es.modify j fun e=>{e with key:= .int k a,val:= .int v x}).toList, ∃ a x,e'.key= .int k a∧e'.val= .int v x:=by
   intro e' he'
   obtain⟨i,hi⟩:=List.mem_iff_getElem?.1 he'
   rw[Array.getElem?_toList,Array.getElem?_modify]at hi
   split at hi
   ·grind
   ·exact h1 e' (by rw[←Array.getElem?_toList]at hi;exact List.mem_of_getElem? hi)
  have hst:=MapKept.stamped_modify hs j (fun e=>{e with key:= .int k a,val:= .int v x}) (fun _ _=>rfl) (fun e' _ he'=>by rw[hj]at he';cases he';exact e3.symm)
  refine⟨es.modify j fun e=>{e with key:= .int k a,val:= .int v x},c, ?_,hst,hall,fun a'=> ?_,fun p hp=>by cases hp⟩
  ·simp[Instr.mapUpdate,run_underlying hm,MapKept.run_getObj_map hb,MapKept.run_checkKey hd hka,MapKept.run_findKey hd e1,hj,e3,MapKept.run_keyThatStays hka,MapKept.run_setObj_map _ hb,Result.andThen]
  ·show _=if a'=a then x else f a'
   by_cases ha:a'=a
   ·subst ha
    rw[if_pos rfl]
    have hmem2:({e with key:= .int k a',val:= .int v x}:MapEntry)∈(es.modify j fun e=>{e with key:= .int k a',val:= .int v x}).toList:=by
     refine List.mem_of_getElem? (i:=j) ?_
     simp_all
    rw[dE hall hst.2.2 hmem2 rfl rfl];rfl
   ·rw[if_neg ha,←h2 a']
    cases hq:dF a' es.toList with
    |some y=>
     obtain⟨e',he',k1,k2⟩:=iO h1 hq
     obtain⟨i,hi⟩:=List.mem_iff_getElem?.1 he'
     have hij:j≠i:=by
      grind
     have hmem2:e'∈(es.modify j fun e=>{e with key:= .int k a,val:= .int v x}).toList:=by
      refine List.mem_of_getElem? (i:=i) ?_
      simp_all
     rw[dE hall hst.2.2 hmem2 k1 k2]
    |none=>
     cases hq':dF a' (es.modify j fun e=>{e with key:= .int k a,val:= .int v x}).toList with
     |none=>rfl
     |some y=>
      obtain⟨e',he',k1,k2⟩:=iO hall hq'
      obtain⟨i,hi⟩:=List.mem_iff_getElem?.1 he'
      rw[Array.getElem?_toList,Array.getElem?_modify]at hi
      split at hi
      ·grind
      ·rw[←Array.getElem?_toList]at hi
       have:=dE h1 hs.2.2 (List.mem_of_getElem? hi) k1 k2
       rw[hq]at this;cases this
end
end Go.Sx
