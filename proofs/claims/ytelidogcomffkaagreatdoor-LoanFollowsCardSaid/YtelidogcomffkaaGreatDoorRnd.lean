import Derived.Test.YtelidogcomffkaaGreatDoorD64
import Derived.Test.YtelidogcomffkaaGreatDoorBig
import Derived.Test.YtelidogcomffkaaGreatDoorProg
import Derived.KernelRfl
import Derived.Laws.Externs
set_option linter.unusedSectionVars false
set_option linter.unusedSimpArgs false
set_option linter.unusedVariables false
set_option maxRecDepth 100000
namespace Go.Proofs.YtelidogcomffkaaGreatDoor
open Go Go.Sx
variable [Env]
noncomputable def demurrageref02_value_h0 (n1:Nat) (g2:Nat→Int) (x1:Int) (x2:Int):SC:=
 ⟨[⟨199,slo 22 [(1, .ptr 1 0),(3,I x1),(4,I x2)],[.code (bodyAt Tryz.f199 [1,1,0,1,0,0]), .inLoop (bodyAt Tryz.f199 [1,1,0,1,0,0]), .inBlock 0, .code (bodyAt Tryz.f199 [1,1,1])],{}⟩],[ri n1 g2,some (.box true [.sl 0 n1])]⟩
theorem demurrageref02_value_0 {X:Cx} {res:SV} {new:List (Option Vw)} {n1:Nat} {g2:Nat→Int} (hX:Fi X 199 [ri n1 g2] res new) (h0:InR .i64 (((n1:Nat):Int)-1)) (k:Ok X (demurrageref02_value_h0 n1 g2 0 (((n1:Nat):Int)-1))):
  Ok X (entry Tryz.prog 199 [.agg [.sl 0 n1]] [ri n1 g2]):=
 Ok.cutM 20 [] [msk 22 [1,3,4]] [.old 0, .old 1] 1 hX.P hX.gl hX.n0 (by kernel_rfl) (by kernel_rfl) (by exact⟨fun _=>rfl,rfl,trivial⟩) (ca h0 na) k
theorem demurrageref02_value_1 {X:Cx} {res:SV} {new:List (Option Vw)} {n1:Nat} {g2:Nat→Int} {x1 x2:Int} (hX:Fi X 199 [ri n1 g2] res new) (h0:x2≥0) (h1:InR .i64 (10000*x1)) (h2:(0:Int)≤x2∧x2<((n1:Nat):Int)) (h3:InR .i64 ((10000*x1)+(g2 x2.toNat))) (h4:InR .i64 (x2-1)) (k:Ok X (demurrageref02_value_h0 n1 g2 ((10000*x1)+(g2 x2.toNat)) (x2-1))):
  Ok X (demurrageref02_value_h0 n1 g2 x1 x2):=
 Ok.cutM 28 [tb] [msk 22 [1,3,4]] [.old 0, .old 1] 1 hX.P hX.gl hX.n0 (by kernel_rfl) (by kernel_rfl) (by exact⟨fun _=>rfl,rfl,trivial⟩) (ca (dt h0) (ca h1 (ca h2 (ca (re n1) (ca h2 (ca h3 (ca h4 na))))))) k
theorem demurrageref02_value_2 {X:Cx} {n1:Nat} {g2:Nat→Int} {x1 x2:Int} (hX:Fi X 199 [ri n1 g2] (I x1) []) (h0: ¬x2≥0):
  Ok X (demurrageref02_value_h0 n1 g2 x1 x2):=
 Ok.fin 13 [fb] [] 2 hX (by kernel_rfl) rfl (ca (df h0) na)
theorem value_loop {X:Cx} {a:Nat} (ha:a<9223372036854775808) (hX:IsFin X Tryz.prog GL 199 [BR false a] (I (a:Int)) []):
  ∀ (i:Nat),i≤ln a→Ok X (demurrageref02_value_h0 (ln a) (dg a) ((a/10000^i:Nat):Int) ((i:Int)-1))
 |0,hi=>by
  rw[Nat.pow_zero,Nat.div_one]
  exact demurrageref02_value_2 hX (by omega)
 |j+1,hi=>by
  have hl:ln a≤5:=ln_le_iff.2 (by omega)
  have e:(((j+1:Nat):Int)-1)=(j:Int):=by omega
  have h1:10000*(((a/10000^(j+1):Nat):Int))+dg a j=((a/10000^j:Nat):Int):=by
   unfold dg dgN;rw[←div_step];omega
  have h2:a/10000^j≤a:=Nat.div_le_self _ _
  have h3:=dg_nn a j
  rw[e]
  generalize a/10000^(j+1)=p at*
  have hq:a/10000^j<9223372036854775808:=by omega
  have ih:=value_loop ha hX j (by omega)
  generalize a/10000^j=q at*
  refine demurrageref02_value_1 hX (by omega) (by simp only[InR];omega) (by omega) ?_ (by simp only[InR];omega) ?_
  ·rw[show(j:Int).toNat=j from rfl,h1];simp only[InR];omega
  ·rw[show(j:Int).toNat=j from rfl,h1]
   exact ih
theorem value {a:Nat} (ha:a<9223372036854775808):SCall Tryz.prog GL 199 [.agg [.sl 0 (ln a)]] [BR false a] (I (a:Int)) []:=by
 refine SCall.of (by kernel_rfl) rfl ⟨fun i=>rfl,trivial⟩ rfl (fun X hX=> ?_)
 have hl:ln a≤5:=ln_le_iff.2 (by omega)
 refine demurrageref02_value_0 hX (by simp only[InR];omega) ?_
 have:=value_loop ha hX (ln a) (Nat.le_refl _)
 rwa [Nat.div_eq_of_lt (lt_ln a)]at this
end Go.Proofs.YtelidogcomffkaaGreatDoor
namespace Go.Proofs.YtelidogcomffkaaGreatDoor
open Go Go.Sx
variable [Env]
def near (n d:Nat):Nat:=if 2*(n%d)>d∨2*(n%d)=d∧n/d%2=1 then n/d+1 else n/d
def tl (v:Nat):Int×Int:=if v>4611686018427387904 then(0,6)else((v:Int),0)
abbrev IT (r:Int×Int):SV:= .tup [I r.1,I r.2]
def rnd (a b n d per:Int):Int×Int:=
 if a<0∨b<0∨per<1 then(0,1)
 else if 340282366920938463463374607431768211456≤a.toNat*b.toNat*n.toNat∨18446744073709551616≤per.toNat*d.toNat then(0,6)
 else tl (near (a.toNat*b.toNat*n.toNat) (per.toNat*d.toNat))
theorem cmpI_gt {a b:Nat}:cmpI (a:Int) (b:Int)>0↔b<a:=by unfold cmpI;split<;>(try split)<;>omega
theorem hl_div {q w:Nat} (h:w<18446744073709551616):(q*18446744073709551616+w)/18446744073709551616=q:=by omega
theorem hl_mod {q w:Nat} (h:w<18446744073709551616):(q*18446744073709551616+w)%18446744073709551616=w:=by omega
theorem Div_wideG {x d:Nat} (hd:d≠0) (hd2:d<18446744073709551616) (hx:x<340282366920938463463374607431768211456):S 225 [wideV x,N .u64 (d:Int)] [] (.tup [wideV (x/d),N .u64 ((x%d:Nat):Int),I 0]) []:=by
 have hp:0<d:=Nat.pos_of_ne_zero hd
 have h1:=div64 (h:=0) (l:=x/18446744073709551616) (d:=d) hp hd2 (by omega)
 have m1:=Nat.mod_lt (x/18446744073709551616) hp
 have h2:=div64 (h:=x/18446744073709551616%d) (l:=x%18446744073709551616) (d:=d) m1 hd2 (by omega)
 rw[Nat.zero_mul,Nat.zero_add]at h1
 have:=wide_Div_1 (by omega) h1 h2
 have e0:=Nat.div_add_mod (x/18446744073709551616) d
 obtain⟨q,hq⟩: ∃ q,x/18446744073709551616/d=q:=⟨_,rfl⟩
 obtain⟨r,hr⟩: ∃ r,x/18446744073709551616%d=r:=⟨_,rfl⟩
 rw[hq,hr]at e0 this
 rw[hr]at m1
 have ex:x=d*(q*18446744073709551616)+(r*18446744073709551616+x%18446744073709551616):=by
  rw[←Nat.mul_assoc]
  omega
 have l1:(r*18446744073709551616+x%18446744073709551616)/d<18446744073709551616:=(Nat.div_lt_iff_lt_mul hp).2 (by
  have:(r+1)*18446744073709551616≤d*18446744073709551616:=Nat.mul_le_mul_right _ m1
  omega)
 have e1:x/d=q*18446744073709551616+(r*18446744073709551616+x%18446744073709551616)/d:=by
  conv=>lhs;rw[ex]
  rw[Nat.mul_add_div hp]
 have e2:x%d=(r*18446744073709551616+x%18446744073709551616)%d:=by
  conv=>lhs;rw[ex]
  rw[Nat.mul_add_mod]
 rw[←e2]at this
 obtain⟨w,hw⟩: ∃ w,(r*18446744073709551616+x%18446744073709551616)/d=w:=⟨_,rfl⟩
 rw[hw]at e1 l1 this
 rw[e1]
 unfold wideV
 rw[hl_div l1,hl_mod l1]
 exact this
theorem Add_over {x y:Nat} (h:340282366920938463463374607431768211456≤x+y) (hx:x<340282366920938463463374607431768211456) (hy:y<340282366920938463463374607431768211456):
  S 224 [wideV x,wideV y] [] (.tup [.agg [N .u64 0,N .u64 0],I 6]) []:=by
 have h0:= @Add64 _ (x%18446744073709551616) (y%18446744073709551616) 0 (by decide)
 have h1:= @Add64 _ (x/18446744073709551616) (y/18446744073709551616) ((x%18446744073709551616+y%18446744073709551616+0)/18446744073709551616) (by omega)
 exact wide_Add_0 h0 h1 (by omega)
theorem wide_Times_w {a1 a2 a3:Int} {res:SV} (H: ∃ r4 r5:Int,S 202 [N .u64 a2,N .u64 a3] [] (.agg [N .u64 r4,N .u64 r5]) []∧ ∃ r6 r7:Int,S 202 [N .u64 a1,N .u64 a3] [] (.agg [N .u64 r6,N .u64 r7]) []∧(r6≠0→(SV.tup [.agg [N .u64 0,N .u64 0],I 6])=res)∧(r6=0→ ∃ r8 r9 r10:Int,S 224 [.agg [N .u64 r4,N .u64 r5], .agg [N .u64 r7,N .u64 0]] [] (.tup [.agg [N .u64 r8,N .u64 r9],I r10]) []∧(SV.tup [.agg [N .u64 r8,N .u64 r9],I r10])=res)):
  S 201 [.agg [N .u64 a1,N .u64 a2],N .u64 a3] [] res []:=by
 refine SCall.st fun X hX=> ?_
 obtain⟨r4,r5,h0,r6,r7,h1,H1,H2⟩:=H
 refine hX.go [d_ 10,c_ [] h0,c_ [] h1] ?_
 by_cases h2:r6=0
 ·obtain⟨r8,r9,r10,h3,rfl⟩:=H2 h2
  exact hX.e [f_ (bne_eq_false_iff_eq.2 h2),c_ [] h3]
 ·obtain rfl:=H1 h2
  exact hX.e [t_ (bne_iff_ne.2 h2)]
theorem Times_wide {x n:Nat} (hx:x<340282366920938463463374607431768211456) (hn:n<18446744073709551616):
  S 201 [wideV x,N .u64 (n:Int)] [] (if x*n<340282366920938463463374607431768211456 then .tup [wideV (x*n),I 0]else .tup [.agg [N .u64 0,N .u64 0],I 6]) []:=by
 have e:x*n=x/18446744073709551616*n*18446744073709551616+x%18446744073709551616*n:=by
  have hB:x=x/18446744073709551616*18446744073709551616+x%18446744073709551616:=by omega
  conv=>lhs;rw[hB,Nat.add_mul,Nat.mul_right_comm]
 have hlow:x%18446744073709551616*n≤18446744073709551615*18446744073709551615:=Nat.mul_le_mul (by omega) (by omega)
 refine wide_Times_w ⟨_,_,Mul_wide (by omega) hn,_,_,Mul_wide (a:=x/18446744073709551616) (by omega) hn,fun c=> ?_,fun c=> ?_⟩
 ·rw[if_neg (by omega)]
 ·obtain⟨p,hp⟩: ∃ p,x/18446744073709551616*n=p:=⟨_,rfl⟩
  obtain⟨w,hw⟩: ∃ w,x%18446744073709551616*n=w:=⟨_,rfl⟩
  rw[hp]at c⊢
  rw[hw]at hlow⊢
  rw[hp,hw]at e
  have e1:p*18446744073709551616/18446744073709551616=p%18446744073709551616:=by omega
  have e2:p*18446744073709551616%18446744073709551616=0:=by omega
  by_cases h:x*n<340282366920938463463374607431768211456
  ·rw[if_pos h]
   have:=Add_wide (x:=w) (y:=p*18446744073709551616) (by omega)
   rw[show w+p*18446744073709551616=x*n by omega]at this
   unfold wideV at this⊢
   rw[e1,e2]at this
   exact⟨_,_,_,this,rfl⟩
  ·rw[if_neg h]
   have:=Add_over (x:=w) (y:=p*18446744073709551616) (by omega) (by omega) (by omega)
   unfold wideV at this
   rw[e1,e2]at this
   exact⟨_,_,_,this,rfl⟩
theorem round_told_w {a1 a2:Int} {res:SV} (H: ∃ r3 r4:Int,S 223 [N .u64 4611686018427387904] [] (.agg [N .u64 r3,N .u64 r4]) []∧ ∃ r5:Int,S 239 [.agg [N .u64 a1,N .u64 a2], .agg [N .u64 r3,N .u64 r4]] [] (I r5) []∧(r5>0→(SV.tup [I 0,I 6])=res)∧(¬r5>0→Ir a2∧(SV.tup [I a2,I 0])=res)):
  S 231 [.agg [N .u64 a1,N .u64 a2]] [] res []:=by
 refine SCall.st fun X hX=> ?_
 obtain⟨r3,r4,h0,r5,h1,H1,H2⟩:=H
 refine hX.go [d_ 2,c_ [] h0,c_ [] h1] ?_
 by_cases h2:r5>0
 ·obtain rfl:=H1 h2
  exact hX.e [t_ (dt h2)]
 ·obtain⟨h3,rfl⟩:=H2 h2
  exact hX.e [f_ (df h2),q_ h3]
theorem told_wide (v:Nat):S 231 [wideV v] [] (IT (tl v)) []:=by
 refine round_told_w ⟨_,_,Of_wide (x:=4611686018427387904) (by decide),_,Cmp_wide v 4611686018427387904,fun c=> ?_,fun c=> ?_⟩
 ·unfold tl;rw[if_pos (cmpI_gt.1 c)]
 ·have h: ¬v>4611686018427387904:=fun h=>c (cmpI_gt.2 h)
  unfold tl;rw[if_neg h,show v%18446744073709551616=v by omega]
  exact⟨by simp only[Ir,InR];omega,rfl⟩
theorem round_up_w {a1 a2:Int} {a3:Bool} {res:SV} (H:U64 (a2-a1)∧(a1=(a2-a1)→(a3=true→B true=res)∧(a3=false→(a1>(a2-a1)→B true=res)∧(¬a1>(a2-a1)→B false=res)))∧(a1≠(a2-a1)→(a1>(a2-a1)→B true=res)∧(¬a1>(a2-a1)→B false=res))):
  S 232 [N .u64 a1,N .u64 a2,B a3] [] res []:=by
 refine SCall.st fun X hX=> ?_
 obtain⟨h0,H1,H2⟩:=H
 refine hX.go [q_ h0] ?_
 by_cases h1:a1=(a2-a1)
 ·obtain⟨H1,H2⟩:=H1 h1
  refine hX.go [t_ (beq_iff_eq.2 h1),t_ (beq_iff_eq.2 h1)] ?_
  rcases bcase a3 with h2|h2
  ·obtain rfl:=H1 h2
   exact hX.e [t_ h2]
  ·obtain⟨H1,H2⟩:=H2 h2
   refine hX.go [f_ h2] ?_
   by_cases h3:a1>(a2-a1)
   ·obtain rfl:=H1 h3
    exact hX.e [t_ (dt h3)]
   ·obtain rfl:=H2 h3
    exact hX.e [f_ (df h3)]
 ·obtain⟨H1,H2⟩:=H2 h1
  refine hX.go [f_ (beq_eq_false_iff_ne.2 h1),f_ (beq_eq_false_iff_ne.2 h1),f_ rf] ?_
  by_cases h2:a1>(a2-a1)
  ·obtain rfl:=H1 h2
   exact hX.e [t_ (dt h2)]
  ·obtain rfl:=H2 h2
   exact hX.e [f_ (df h2)]
theorem up_ok {l d:Nat} {o:Bool} (h:l≤d) (hd:d<18446744073709551616):S 232 [N .u64 (l:Int),N .u64 (d:Int),B o] [] (B (decide (2*l>d∨2*l=d∧o=true))) []:=by
 refine round_up_w ⟨by simp only[U64,InR];omega,fun c=>⟨fun e=> ?_,fun e=>⟨fun g=>by omega,fun g=> ?_⟩⟩,fun c=>⟨fun g=> ?_,fun g=> ?_⟩⟩
 ·rw[decide_eq_true (.inr ⟨by omega,e⟩)]
 ·rw[decide_eq_false (by
   rintro (q|q)
   ·omega
   ·rw[e]at q;exact absurd q.2 (by decide))]
 ·rw[decide_eq_true (.inl (by omega))]
 ·rw[decide_eq_false (by rintro (q|q)<;>omega)]
theorem round_Even_w {a1 a2 a3:Int} {res:SV} (H: ∃ r4 r5 r6 r7:Int,S 225 [.agg [N .u64 a1,N .u64 a2],N .u64 a3] [] (.tup [.agg [N .u64 r4,N .u64 r5],N .u64 r6,I r7]) []∧(r7≠0→(SV.tup [I 0,I r7])=res)∧(r7=0→ ∃ r8 r9:Int,S 231 [.agg [N .u64 r4,N .u64 r5]] [] (.tup [I r8,I r9]) []∧(r9=0→(0:Int)≤r8∧ ∃ r10:Bool,S 232 [N .u64 r6,N .u64 a3,B ((r8%2)==1)] [] (B r10) []∧(r10=true→U64 r8∧U64 (r8+1)∧ ∃ r11 r12:Int,S 223 [N .u64 (r8+1)] [] (.agg [N .u64 r11,N .u64 r12]) []∧ ∃ r13 r14:Int,S 231 [.agg [N .u64 r11,N .u64 r12]] [] (.tup [I r13,I r14]) []∧(SV.tup [I r13,I r14])=res)∧(r10=false→(SV.tup [I r8,I r9])=res))∧(r9≠0→(SV.tup [I r8,I r9])=res))):
  S 203 [.agg [N .u64 a1,N .u64 a2],N .u64 a3] [] res []:=by
 refine SCall.st fun X hX=> ?_
 obtain⟨r4,r5,r6,r7,h0,H1,H2⟩:=H
 refine hX.go [c_ [] h0] ?_
 by_cases h1:r7=0
 ·obtain⟨r8,r9,h2,H1,H2⟩:=H2 h1
  refine hX.go [f_ (bne_eq_false_iff_eq.2 h1),c_ [] h2] ?_
  by_cases h3:r9=0
  ·obtain⟨h4,r10,h5,H1,H2⟩:=H1 h3
   refine hX.go [t_ (beq_iff_eq.2 h3),t_ (beq_iff_eq.2 h3),t_ (beq_iff_eq.2 h3),t_ (beq_iff_eq.2 h3),q_ h4,q_ (show(0:Int)<2 from by decide),t_ (beq_iff_eq.2 h3),t_ (beq_iff_eq.2 h3),c_ [] h5,t_ (beq_iff_eq.2 h3)] ?_
   rcases bcase r10 with h6|h6
   ·obtain⟨h7,h8,r11,r12,h9,r13,r14,h10,rfl⟩:=H1 h6
    exact hX.e [t_ h6,q_ h7,q_ h8,c_ [] h9,c_ [] h10]
   ·obtain rfl:=H2 h6
    exact hX.e [f_ h6]
  ·obtain rfl:=H2 h3
   exact hX.e [f_ (beq_eq_false_iff_ne.2 h3),f_ (beq_eq_false_iff_ne.2 h3),f_ (beq_eq_false_iff_ne.2 h3),f_ (beq_eq_false_iff_ne.2 h3),f_ (beq_eq_false_iff_ne.2 h3),f_ (beq_eq_false_iff_ne.2 h3),f_ (beq_eq_false_iff_ne.2 h3),f_ rf]
 ·obtain rfl:=H1 h1
  exact hX.e [t_ (bne_iff_ne.2 h1)]
theorem near_ge (x d:Nat):x/d≤near x d:=by unfold near;split<;>omega
theorem even_ok {x d:Nat} (hd:d≠0) (hd2:d<18446744073709551616) (hx:x<340282366920938463463374607431768211456):S 203 [wideV x,N .u64 (d:Int)] [] (IT (tl (near x d))) []:=by
 have hm:=Nat.mod_lt x (Nat.pos_of_ne_zero hd)
 have hg:=near_ge x d
 have t:=told_wide (x/d)
 refine round_Even_w ⟨_,_,_,_,Div_wideG hd hd2 hx,fun c=>absurd rfl c,fun _=>⟨_,_,t,fun c=> ?_,fun c=> ?_⟩⟩
 ·have h: ¬x/d>4611686018427387904:=fun h=>by unfold tl at c;rw[if_pos h]at c;exact absurd c (by decide)
  have e:tl (x/d)=(((x/d:Nat):Int),0):=by unfold tl;rw[if_neg h]
  rw[e]
  show(0:Int)≤((x/d:Nat):Int)∧_
  refine⟨Int.natCast_nonneg _,_,up_ok (Nat.le_of_lt hm) hd2,fun u=> ?_,fun u=> ?_⟩
  ·have u':=of_decide_eq_true u
   rw[beq_iff_eq]at u'
   have en:near x d=x/d+1:=by
    unfold near;rw[if_pos]
    rcases u' with u'|u'
    ·exact .inl u'
    ·exact .inr ⟨u'.1,by have:=u'.2;generalize x/d=q at*;show q%2=1;simp only at this;omega⟩
   rw[en]
   have h2:=told_wide (x/d+1)
   generalize x/d=q at*
   have h1:=Of_wide (x:=q+1) (by omega)
   exact⟨by simp only[U64,InR];omega,by simp only[U64,InR];omega,_,_,h1,_,_,h2,rfl⟩
  ·have u':=of_decide_eq_false u
   rw[beq_iff_eq]at u'
   have en:near x d=x/d:=by
    unfold near;rw[if_neg]
    rintro (z|z)
    ·exact u' (.inl z)
    ·exact u' (.inr ⟨z.1,by have:=z.2;generalize x/d=q at*;show(q:Int)%2=1;omega⟩)
   rw[en,e]
 ·have h:x/d>4611686018427387904:=by
   rcases Nat.lt_or_ge 4611686018427387904 (x/d)with h|h
   ·exact h
   ·unfold tl at c;rw[if_neg (by omega)]at c;exact absurd rfl c
  unfold tl
  rw[if_pos h,if_pos (by omega)]
theorem round_Part_w {a1 a2 a3 a4 a5:Int} {res:SV} (H:(a1<0→(SV.tup [I 0,I 1])=res)∧(¬a1<0→(a2<0→(SV.tup [I 0,I 1])=res)∧(¬a2<0→(a5<1→(SV.tup [I 0,I 1])=res)∧(¬a5<1→U64 a1∧U64 a2∧ ∃ r6 r7:Int,S 202 [N .u64 a1,N .u64 a2] [] (.agg [N .u64 r6,N .u64 r7]) []∧U64 a3∧ ∃ r8 r9 r10:Int,S 201 [.agg [N .u64 r6,N .u64 r7],N .u64 a3] [] (.tup [.agg [N .u64 r8,N .u64 r9],I r10]) []∧U64 a5∧U64 a4∧ ∃ r11 r12:Int,S 202 [N .u64 a5,N .u64 a4] [] (.agg [N .u64 r11,N .u64 r12]) []∧(r10≠0→(SV.tup [I 0,I 6])=res)∧(r10=0→(r11≠0→(SV.tup [I 0,I 6])=res)∧(r11=0→ ∃ r13 r14:Int,S 203 [.agg [N .u64 r8,N .u64 r9],N .u64 r12] [] (.tup [I r13,I r14]) []∧(SV.tup [I r13,I r14])=res)))))):
  S 157 [I a1,I a2, .agg [I a3,I a4],I a5] [] res []:=by
 refine SCall.st fun X hX=> ?_
 obtain⟨H1,H2⟩:=H
 by_cases h0:a1<0
 ·obtain rfl:=H1 h0
  exact hX.e [t_ (dt h0),t_ (dt h0),t_ (dt h0),t_ rt,t_ rt,t_ rt,t_ rt]
 ·obtain⟨H1,H2⟩:=H2 h0
  refine hX.go [f_ (df h0),f_ (df h0),f_ (df h0)] ?_
  by_cases h1:a2<0
  ·obtain rfl:=H1 h1
   exact hX.e [t_ (dt h1),t_ (dt h1),t_ (dt h1),t_ rt]
  ·obtain⟨H1,H2⟩:=H2 h1
   refine hX.go [f_ (df h1),f_ (df h1),f_ (df h1)] ?_
   by_cases h2:a5<1
   ·obtain rfl:=H1 h2
    exact hX.e [t_ (dt h2)]
   ·obtain⟨h3,h4,r6,r7,h5,h6,r8,r9,r10,h7,h8,h9,r11,r12,h10,H1,H2⟩:=H2 h2
    refine hX.go [f_ (df h2),q_ h3,q_ h4,h_ [.draw 13 [11] 1],c_ [] h5,q_ h6,c_ [] h7,q_ (re (I r10)),q_ (re (I r10)),q_ h8,q_ h9,c_ [] h10] ?_
    by_cases h11:r10=0
    ·obtain⟨H1,H2⟩:=H2 h11
     refine hX.go [f_ (bne_eq_false_iff_eq.2 h11),f_ (bne_eq_false_iff_eq.2 h11),f_ (bne_eq_false_iff_eq.2 h11),f_ (bne_eq_false_iff_eq.2 h11)] ?_
     by_cases h12:r11=0
     ·obtain⟨r13,r14,h13,rfl⟩:=H2 h12
      exact hX.e [f_ (bne_eq_false_iff_eq.2 h12),c_ [] h13]
     ·obtain rfl:=H1 h12
      exact hX.e [t_ (bne_iff_ne.2 h12)]
    ·obtain rfl:=H1 h11
     exact hX.e [t_ (bne_iff_ne.2 h11),t_ (bne_iff_ne.2 h11),t_ (bne_iff_ne.2 h11),t_ (bne_iff_ne.2 h11),t_ rt]
theorem rPart3 {n d:Int} (a b per:Int) (hn:0≤n) (hn2:n<9223372036854775808) (hd:1≤d) (hd2:d<9223372036854775808) (ha:a<9223372036854775808) (hb:b<9223372036854775808) (hp:per<9223372036854775808):
  S 157 [I a,I b, .agg [I n,I d],I per] [] (IT (rnd a b n d per)) []:=by
 refine round_Part_w ⟨fun c=> ?_,fun c1=>⟨fun c=> ?_,fun c2=>⟨fun c=> ?_,fun c3=> ?_⟩⟩⟩
 ·unfold rnd;rw[if_pos (.inl c)]
 ·unfold rnd;rw[if_pos (.inr (.inl c))]
 ·unfold rnd;rw[if_pos (.inr (.inr c))]
 ·have hr:rnd a b n d per=if 340282366920938463463374607431768211456≤a.toNat*b.toNat*n.toNat∨18446744073709551616≤per.toNat*d.toNat then(0,6)else tl (near (a.toNat*b.toNat*n.toNat) (per.toNat*d.toNat)):=by
   unfold rnd;rw[if_neg (by omega)]
  rw[hr]
  clear hr
  obtain⟨a,rfl⟩: ∃ m:Nat,a=(m:Int):=⟨a.toNat,by omega⟩
  obtain⟨b,rfl⟩: ∃ m:Nat,b=(m:Int):=⟨b.toNat,by omega⟩
  obtain⟨n,rfl⟩: ∃ m:Nat,n=(m:Int):=⟨n.toNat,by omega⟩
  obtain⟨d,rfl⟩: ∃ m:Nat,d=(m:Int):=⟨d.toNat,by omega⟩
  obtain⟨per,rfl⟩: ∃ m:Nat,per=(m:Int):=⟨per.toNat,by omega⟩
  simp only[Int.toNat_natCast]
  have hab:a*b≤9223372036854775807*9223372036854775807:=Nat.mul_le_mul (by omega) (by omega)
  have hpd:per*d≤9223372036854775807*9223372036854775807:=Nat.mul_le_mul (by omega) (by omega)
  have hpd0:per*d≠0:=Nat.mul_ne_zero (by omega) (by omega)
  have ht:=Times_wide (x:=a*b) (n:=n) (by omega) (by omega)
  by_cases h:a*b*n<340282366920938463463374607431768211456
  ·rw[if_pos h]at ht
   refine⟨by simp only[U64,InR];omega,by simp only[U64,InR];omega,_,_,Mul_wide (by omega) (by omega),by simp only[U64,InR];omega,_,_,_,ht,by simp only[U64,InR];omega,by simp only[U64,InR];omega,_,_,Mul_wide (by omega) (by omega),fun c=>absurd rfl c,fun _=>⟨fun c=> ?_,fun c=> ?_⟩⟩
   ·rw[if_pos (.inr (by omega))]
   ·have hlt:per*d<18446744073709551616:=by omega
    rw[if_neg (by omega)]
    have:=even_ok hpd0 hlt h
    rw[show per*d%18446744073709551616=per*d from Nat.mod_eq_of_lt hlt]
    exact⟨_,_,this,rfl⟩
  ·rw[if_neg h]at ht
   refine⟨by simp only[U64,InR];omega,by simp only[U64,InR];omega,_,_,Mul_wide (by omega) (by omega),by simp only[U64,InR];omega,_,_,_,ht,by simp only[U64,InR];omega,by simp only[U64,InR];omega,_,_,Mul_wide (by omega) (by omega),fun c=> ?_,fun c=>absurd c (by decide)⟩
   rw[if_pos (.inl (by omega))]
end Go.Proofs.YtelidogcomffkaaGreatDoor
