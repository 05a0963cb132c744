import Derived.Test.YtelidogcomffkaaGreatDoorThi
import Derived.Test.YtelidogcomffkaaGreatDoorIs
import Derived.Test.YtelidogcomffkaaGreatDoorProg
import Derived.KernelRfl
import Derived.Laws.Externs
set_option linter.unusedSectionVars false
set_option linter.unusedSimpArgs false
set_option linter.unusedVariables false
set_option maxRecDepth 100000
namespace Go.Proofs.YtelidogcomffkaaGreatDoor
open Go Go.Sx
variable [Env]
abbrev QV (q:Rat):SV:= .agg [I q.num,I (q.den:Int)]
abbrev RQ (q:Rat):SV:=RT (q.num,(q.den:Int),0)
theorem num_nat (n:Nat) {d:Nat} (hd:d≠0):(mkRat (n:Int) d).num=((n/Nat.gcd n d:Nat):Int):=by
 rw[Rat.num_mkRat,if_neg hd,Int.natAbs_natCast,Nat.gcd_comm];simp
theorem den_nat (n:Nat) {d:Nat} (hd:d≠0):(mkRat (n:Int) d).den=d/Nat.gcd n d:=by
 rw[Rat.den_mkRat,if_neg hd,Int.natAbs_natCast,Nat.gcd_comm]
theorem mkR_q {n d:Nat} (hd:d≠0) (h1:(mkRat (n:Int) d).num≤4611686018427387904) (h2:(mkRat (n:Int) d).den≤4611686018427387904):mkR n d=((mkRat (n:Int) d).num,((mkRat (n:Int) d).den:Int),0):=by
 rw[num_nat n hd]at h1
 rw[den_nat n hd]at h2
 rw[num_nat n hd,den_nat n hd]
 unfold mkR
 rw[if_neg (by omega)]
theorem num_le (n:Nat) {d:Nat} (hd:d≠0):(mkRat (n:Int) d).num≤n:=by
 rw[num_nat n hd];have:=Nat.div_le_self n (Nat.gcd n d);omega
theorem den_le (n:Nat) {d:Nat} (hd:d≠0):(mkRat (n:Int) d).den≤d:=by
 rw[den_nat n hd];exact Nat.div_le_self d (Nat.gcd n d)
theorem mkR_q' {n d:Nat} (hd:d≠0) (h1:n≤4611686018427387904) (h2:d≤4611686018427387904):mkR n d=((mkRat (n:Int) d).num,((mkRat (n:Int) d).den:Int),0):=
 mkR_q hd (by have:=num_le n hd;omega) (Nat.le_trans (den_le n hd) h2)
theorem r_NewQ {n d:Nat} (hd:d≠0) (h1:n≤4611686018427387904) (h2:d≤4611686018427387904):SCall Tryz.prog GL 191 [I (n:Int),I (d:Int)] [] (RQ (mkRat (n:Int) d)) []:=by
 have:= @r_New _ n d (by omega) (by omega) hd
 rwa [mkR_q' hd h1 h2]at this
theorem mkRat_add_same (C c:Nat) {M:Nat} (hM:M≠0):mkRat (C:Int) M+mkRat (c:Int) M=mkRat ((C+c:Nat):Int) M:=by
 rw[Rat.mkRat_add_mkRat _ _ hM hM,←Int.add_mul,Rat.mkRat_mul_right hM]
 congr 1
theorem add_parts {C c M:Nat} (hM:M≠0) (hCM:C+c≤4611686018427387904) (hM2:M≤4611686018427387904):
  ∃ a p b q:Nat,mkRat (C:Int) M=mkRat (a:Int) p∧(mkRat (C:Int) M).num=(a:Int)∧(mkRat (C:Int) M).den=p∧(mkRat (c:Int) M).num=(b:Int)∧(mkRat (c:Int) M).den=q∧p≠0∧q≠0∧Nat.Coprime a p∧Nat.Coprime b q∧
    a≤C∧b≤c∧p≤M∧q≤M∧a*(q/Nat.gcd p q)+b*(p/Nat.gcd p q)≤C+c∧mkR (a*q+b*p) (p*q)=((mkRat ((C+c:Nat):Int) M).num,((mkRat ((C+c:Nat):Int) M).den:Int),0):=by
 have hg1:0<Nat.gcd C M:=Nat.pos_of_ne_zero fun h=>hM (Nat.eq_zero_of_gcd_eq_zero_right h)
 have hg2:0<Nat.gcd c M:=Nat.pos_of_ne_zero fun h=>hM (Nat.eq_zero_of_gcd_eq_zero_right h)
 have hC:=Nat.div_mul_cancel (Nat.gcd_dvd_left C M)
 have hp:=Nat.div_mul_cancel (Nat.gcd_dvd_right C M)
 have hc:=Nat.div_mul_cancel (Nat.gcd_dvd_left c M)
 have hq:=Nat.div_mul_cancel (Nat.gcd_dvd_right c M)
 have hcop1:=Nat.coprime_div_gcd_div_gcd hg1
 have hcop2:=Nat.coprime_div_gcd_div_gcd hg2
 have e1:=num_nat C hM
 have e2:=den_nat C hM
 have e3:=num_nat c hM
 have e4:=den_nat c hM
 generalize C/Nat.gcd C M=a at*
 generalize M/Nat.gcd C M=p at*
 generalize c/Nat.gcd c M=b at*
 generalize M/Nat.gcd c M=q at*
 generalize Nat.gcd C M=g1 at*
 generalize Nat.gcd c M=g2 at*
 have hp0:p≠0:=fun h=>hM (by rw[←hp,h,Nat.zero_mul])
 have hq0:q≠0:=fun h=>hM (by rw[←hq,h,Nat.zero_mul])
 have hS:mkRat (C:Int) M=mkRat (a:Int) p:=by
  conv=>lhs;rw[←Rat.mkRat_self (mkRat (C:Int) M)]
  rw[e1,e2]
 have hx:mkRat (c:Int) M=mkRat (b:Int) q:=by
  conv=>lhs;rw[←Rat.mkRat_self (mkRat (c:Int) M)]
  rw[e3,e4]
 have hsum:mkRat ((a*q+b*p:Nat):Int) (p*q)=mkRat ((C+c:Nat):Int) M:=by
  rw[←mkRat_add_same C c hM,hS,hx,Rat.mkRat_add_mkRat _ _ hp0 hq0]
  congr 1
 have hgp:0<Nat.gcd p q:=Nat.pos_of_ne_zero fun h=>hp0 (Nat.eq_zero_of_gcd_eq_zero_left h)
 have hl:Nat.lcm p q∣M:=Nat.lcm_dvd ⟨g1,hp.symm⟩ ⟨g2,hq.symm⟩
 obtain⟨t,ht⟩:=hl
 have ht0:0<t:=Nat.pos_of_ne_zero fun h=>hM (by rw[ht,h,Nat.mul_zero])
 have hl1:Nat.lcm p q=p*(q/Nat.gcd p q):=Nat.mul_div_assoc _ (Nat.gcd_dvd_right p q)
 have hl2:Nat.lcm p q=q*(p/Nat.gcd p q):=by rw[Nat.lcm_comm,Nat.gcd_comm];exact Nat.mul_div_assoc _ (Nat.gcd_dvd_right q p)
 have hg1e:g1=q/Nat.gcd p q*t:=by
  have:p*g1=p*(q/Nat.gcd p q*t):=by rw[←Nat.mul_assoc,←hl1,←ht];exact hp
  exact Nat.eq_of_mul_eq_mul_left (Nat.pos_of_ne_zero hp0) this
 have hg2e:g2=p/Nat.gcd p q*t:=by
  have:q*g2=q*(p/Nat.gcd p q*t):=by rw[←Nat.mul_assoc,←hl2,←ht];exact hq
  exact Nat.eq_of_mul_eq_mul_left (Nat.pos_of_ne_zero hq0) this
 have hle1:a*(q/Nat.gcd p q)≤C:=by
  rw[←hC,hg1e]
  exact Nat.mul_le_mul_left _ (Nat.le_mul_of_pos_right _ ht0)
 have hle2:b*(p/Nat.gcd p q)≤c:=by
  rw[←hc,hg2e]
  exact Nat.mul_le_mul_left _ (Nat.le_mul_of_pos_right _ ht0)
 have n1:=num_le (C+c) hM
 have d1:=den_le (C+c) hM
 refine⟨a,p,b,q,hS,e1,e2,e3,e4,hp0,hq0,hcop1,hcop2, ?_, ?_, ?_, ?_,by omega, ?_⟩
 ·rw[←hC];exact Nat.le_mul_of_pos_right _ hg1
 ·rw[←hc];exact Nat.le_mul_of_pos_right _ hg2
 ·rw[←hp];exact Nat.le_mul_of_pos_right _ hg1
 ·rw[←hq];exact Nat.le_mul_of_pos_right _ hg2
 ·rw[mkR_q (Nat.mul_ne_zero hp0 hq0) (by rw[hsum];omega) (by rw[hsum];omega),hsum]
theorem r_AddQ {C c M:Nat} (hM:M≠0) (hCM:C+c≤4611686018427387904) (hM2:M≤4611686018427387904):
  SCall Tryz.prog GL 195 [QV (mkRat (C:Int) M),QV (mkRat (c:Int) M)] [] (RQ (mkRat ((C+c:Nat):Int) M)) []:=by
 obtain⟨a,p,b,q, -,e1,e2,e3,e4,hp,hq,h1,h2,h3,h4,h5,h6,h7,h8⟩:=add_parts hM hCM hM2
 have:= @r_Add _ a p b q hp hq h1 h2 (by omega) (by omega) (by omega) (by omega) (by omega)
 rw[h8]at this
 unfold QV
 rw[e1,e2,e3,e4]
 exact this
end Go.Proofs.YtelidogcomffkaaGreatDoor
namespace Go.Proofs.YtelidogcomffkaaGreatDoor
open Go Go.Sx
variable [Env]
theorem isP00 (a b:Int):SCall Tryz.prog GL 171 [.ifc 322 (.agg [I a,I b, .val (errS Env.n0)]), .val (errS Env.n0)] [] (B true) []:=by
 have:=isPair_S a b (x:=Env.n0) (y:=Env.n0) (.inl rfl) (.inl rfl);rwa [decide_eq_true rfl]at this
theorem isP11 (a b:Int):SCall Tryz.prog GL 171 [.ifc 322 (.agg [I a,I b, .val (errS Env.n1)]), .val (errS Env.n1)] [] (B true) []:=by
 have:=isPair_S a b (x:=Env.n1) (y:=Env.n1) (.inr rfl) (.inr rfl);rwa [decide_eq_true rfl]at this
theorem isP10 (a b:Int):SCall Tryz.prog GL 171 [.ifc 322 (.agg [I a,I b, .val (errS Env.n1)]), .val (errS Env.n0)] [] (B false) []:=by
 have:=isPair_S a b (x:=Env.n1) (y:=Env.n0) (.inr rfl) (.inl rfl);rwa [decide_eq_false Env.ne.symm]at this
theorem mkI_q {n d:Int} (hn:0≤n∧n≤4611686018427387904) (hd:0<d∧d≤4611686018427387904):mkI n d=((mkRat n d.toNat).num,((mkRat n d.toNat).den:Int),0):=by
 unfold mkI
 have:=mkR_q' (n:=n.toNat) (d:=d.toNat) (by omega) (by omega) (by omega)
 rw[show((n.toNat:Nat):Int)=n by omega]at this
 exact this
theorem add_gen {C c M N:Nat} (hM:M≠0) (hN:N≠0) (hC:C≤100000000) (hc:c≤100000000) (h1:M≤1000000) (h2:N≤1000000):
  ∃ a p b q:Nat,(mkRat (C:Int) M).num=(a:Int)∧(mkRat (C:Int) M).den=p∧(mkRat (c:Int) N).num=(b:Int)∧(mkRat (c:Int) N).den=q∧p≠0∧q≠0∧Nat.Coprime a p∧Nat.Coprime b q∧
    a≤C∧b≤c∧p≤M∧q≤N∧a*(q/Nat.gcd p q)+b*(p/Nat.gcd p q)<18446744073709551616∧
    mkR (a*q+b*p) (p*q)=((mkRat ((C*N+c*M:Nat):Int) (M*N)).num,((mkRat ((C*N+c*M:Nat):Int) (M*N)).den:Int),0):=by
 have hg1:0<Nat.gcd C M:=Nat.pos_of_ne_zero fun h=>hM (Nat.eq_zero_of_gcd_eq_zero_right h)
 have hg2:0<Nat.gcd c N:=Nat.pos_of_ne_zero fun h=>hN (Nat.eq_zero_of_gcd_eq_zero_right h)
 have lC:=Nat.div_le_self C (Nat.gcd C M)
 have lc:=Nat.div_le_self c (Nat.gcd c N)
 have lM:=Nat.div_le_self M (Nat.gcd C M)
 have lN:=Nat.div_le_self N (Nat.gcd c N)
 have hp:=Nat.div_mul_cancel (Nat.gcd_dvd_right C M)
 have hq:=Nat.div_mul_cancel (Nat.gcd_dvd_right c N)
 have hcop1:=Nat.coprime_div_gcd_div_gcd hg1
 have hcop2:=Nat.coprime_div_gcd_div_gcd hg2
 have e1:=num_nat C hM
 have e2:=den_nat C hM
 have e3:=num_nat c hN
 have e4:=den_nat c hN
 generalize C/Nat.gcd C M=a at*
 generalize M/Nat.gcd C M=p at*
 generalize c/Nat.gcd c N=b at*
 generalize N/Nat.gcd c N=q at*
 have hp0:p≠0:=fun h=>hM (by rw[←hp,h,Nat.zero_mul])
 have hq0:q≠0:=fun h=>hN (by rw[←hq,h,Nat.zero_mul])
 have hS:mkRat (C:Int) M=mkRat (a:Int) p:=by
  conv=>lhs;rw[←Rat.mkRat_self (mkRat (C:Int) M)]
  rw[e1,e2]
 have hx:mkRat (c:Int) N=mkRat (b:Int) q:=by
  conv=>lhs;rw[←Rat.mkRat_self (mkRat (c:Int) N)]
  rw[e3,e4]
 have hsum:mkRat ((a*q+b*p:Nat):Int) (p*q)=mkRat ((C*N+c*M:Nat):Int) (M*N):=by
  have h3:=Rat.mkRat_add_mkRat (a:Int) (b:Int) hp0 hq0
  have h4:=Rat.mkRat_add_mkRat (C:Int) (c:Int) hM hN
  rw[←hS,←hx]at h3
  rw[h4]at h3
  simp only[Int.natCast_add,Int.natCast_mul]
  exact h3.symm
 have b1:C*N≤100000000*1000000:=Nat.mul_le_mul hC h2
 have b2:c*M≤100000000*1000000:=Nat.mul_le_mul hc h1
 have b3:M*N≤1000000*1000000:=Nat.mul_le_mul h1 h2
 have hMN:M*N≠0:=Nat.mul_ne_zero hM hN
 have n1:=num_le (C*N+c*M) hMN
 have d1:=den_le (C*N+c*M) hMN
 have b4:a*(q/Nat.gcd p q)≤100000000*1000000:=Nat.mul_le_mul (by omega) (Nat.le_trans (Nat.div_le_self _ _) (by omega))
 have b5:b*(p/Nat.gcd p q)≤100000000*1000000:=Nat.mul_le_mul (by omega) (Nat.le_trans (Nat.div_le_self _ _) (by omega))
 refine⟨a,p,b,q,e1,e2,e3,e4,hp0,hq0,hcop1,hcop2,lC,lc,lM,lN,by omega, ?_⟩
 rw[mkR_q (Nat.mul_ne_zero hp0 hq0) (by rw[hsum];omega) (by rw[hsum];omega),hsum]
theorem r_AddG {C c M N:Nat} (hM:M≠0) (hN:N≠0) (hC:C≤100000000) (hc:c≤100000000) (h1:M≤1000000) (h2:N≤1000000):
  SCall Tryz.prog GL 195 [QV (mkRat (C:Int) M),QV (mkRat (c:Int) N)] [] (RQ (mkRat ((C*N+c*M:Nat):Int) (M*N))) []:=by
 obtain⟨a,p,b,q,e1,e2,e3,e4,hp,hq,g1,g2,g3,g4,g5,g6,g7,g8⟩:=add_gen hM hN hC hc h1 h2
 have:=r_Add (a:=a) (p:=p) (b:=b) (q:=q) hp hq g1 g2 (by omega) (by omega) (by omega) (by omega) g7
 rw[g8]at this
 unfold QV
 rw[e1,e2,e3,e4]
 exact this
theorem actual_ends_w {a1:Int} {res:SV} (H: ∃ r2 r3:Int,S 180 [.agg [I a1,I 1,I 1]] [] (.tup [I r2,I r3]) []∧ ∃ r4:Bool,S 121 [I a1] [] (B r4) []∧(r4=true→(SV.tup [I r2,I 366])=res)∧(r4=false→(SV.tup [I r2,I 365])=res)):
  S 194 [I a1] [] res []:=by
 refine SCall.st fun X hX=> ?_
 obtain⟨r2,r3,h0,r4,h1,H1,H2⟩:=H
 refine hX.go [c_ [] h0,c_ [] h1] ?_
 rcases bcase r4 with h2|h2
 ·obtain rfl:=H1 h2
  exact hX.e [t_ h2]
 ·obtain rfl:=H2 h2
  exact hX.e [f_ h2]
theorem numb1 (y:Int):numb y 1 1=ahd y+1:=by unfold numb;show ahd y+1+0=_;omega
theorem may1 {y:Int} (h1:1≤y) (h2:y≤9999):mayC y 1 1=true:=by
 unfold mayC;rw[decide_eq_true_eq];refine⟨h1,h2,by decide,by decide,by decide, ?_⟩
 unfold len;simp[lens]
theorem aEnds {y:Int} (h1:1≤y) (h2:y≤9999):SCall Tryz.prog GL 194 [I y] [] (.tup [I (ahd y+1),I (if lp y=true then 366 else 365)]) []:=by
 have:=cNumber (may1 h1 h2)
 rw[numb1]at this
 exact actual_ends_w ⟨_,_,this,_,cLeap (by omega),fun h=>by rw[if_pos h],fun h=>by simp[h]⟩
def r8 (a b d:Int):Int×Int×Int:=if whyR a b=0 then mkI (b-a) d else(0,0,whyR a b)
theorem r8_bad {a b d:Int} (h:whyR a b≠0):r8 a b d=(0,0,whyR a b):=by unfold r8;rw[if_neg h]
theorem why_ab {a b:Int} (h:whyR a b=0):(1≤a∧a≤3652059)∧(1≤b∧b≤3652059)∧a≤b:=by
 rw[why_0,isDay_iff,isDay_iff]at h;omega
def nl (y:Int):Int:=(y-1)/4-(y-1)/100+(y-1)/400
def lG (y p:Int):Int:=366*nl y+if lp y=true then p-(ahd y+1)else 0
def lD (n:Int):Int:=lG (cY n) n
theorem nl_succ (y:Int):nl (y+1)=nl y+if lp y=true then 1 else 0:=by
 unfold nl lp
 split<;>rename_i hl<;>simp only[decide_eq_true_eq]at hl<;>omega
theorem ahd_le {y:Int} (h1:1≤y) (h2:y≤10004):0≤ahd y∧ahd y≤3655000:=by unfold ahd;omega
theorem day_yr {n:Int} (h:isDay n=true):1≤cY n∧cY n≤9999∧ahd (cY n)+1≤n∧n≤ahd (cY n+1):=by
 have h':=isDay_iff.1 h
 have e:cY n=(ofYr n).1:=by unfold cY civOf;rw[if_pos h]
 obtain⟨a1,a2,a3,a4,a5⟩:=ofYr_ok h'.1 h'.2
 rw[mons12]at a4
 have:=ahd_succ _ a1
 rw[e]
 exact⟨a1,a2,by omega,by omega⟩
theorem lG_end {y:Int} (hy:1≤y):lG y (ahd (y+1)+1)=lG (y+1) (ahd (y+1)+1):=by
 have h1:=nl_succ y
 have h2:=ahd_succ y hy
 unfold lG
 cases h:lp y<;>rw[h]at h1 h2<;>simp at h1 h2⊢ <;>(try split)<;>omega
theorem lG_mono {y p q:Int} (h:p≤q):0≤lG y q-lG y p∧lG y q-lG y p≤q-p:=by unfold lG;split<;>omega
theorem lG_span {y p:Int} (hy:1≤y) (h:p≤ahd (y+1)+1): ∀ (k:Nat) (q:Int),ahd (y+k)+1≤q→p≤q→0≤lG (y+k) q-lG y p∧lG (y+k) q-lG y p≤q-p
 |0,q,h1,h2=>by rw[show y+((0:Nat):Int)=y by omega];exact lG_mono h2
 |k+1,q,h1,h2=>by
  have e:y+((k+1:Nat):Int)=(y+(k:Int))+1:=by omega
  rw[e]at h1⊢
  have hm:ahd (y+1)≤ahd (y+(k:Int)+1):=ahd_mono (by omega)
  have hm2:ahd (y+(k:Int))≤ahd (y+(k:Int)+1):=ahd_mono (by omega)
  have ih:=lG_span hy h k (ahd (y+(k:Int)+1)+1) (by omega) (by omega)
  rw[lG_end (by omega)]at ih
  have:= @lG_mono _ (y+(k:Int)+1) _ _ h1
  omega
theorem yr_mono {a b:Int} (ha:isDay a=true) (hb:isDay b=true) (h:a≤b):cY a≤cY b:=by
 have h1:=day_yr ha
 have h2:=day_yr hb
 rcases Int.lt_or_le (cY b) (cY a)with h3|h3
 ·have:=ahd_mono (a:=cY b+1) (b:=cY a) (by omega);omega
 ·exact h3
theorem lD_span {a b:Int} (h:whyR a b=0):0≤lD b-lD a∧lD b-lD a≤b-a:=by
 have h':=why_0.1 h
 have h1:=day_yr h'.1
 have h2:=day_yr h'.2.1
 have h3:=yr_mono h'.1 h'.2.1 (by omega)
 have:=lG_span h1.1 (p:=a) (by omega) (cY b-cY a).toNat b (by rw[show cY a+((cY b-cY a).toNat:Int)=cY b by omega];omega) (by omega)
 rw[show cY a+((cY b-cY a).toNat:Int)=cY b by omega]at this
 exact this
def q8 (o i:Int):Rat:=mkRat (((o.toNat*366+i.toNat*365:Nat)):Int) (365*366)
def r8Y (a b:Int):Int×Int×Int:=if whyR a b=0 then((q8 (b-a-(lD b-lD a)) (lD b-lD a)).num,((q8 (b-a-(lD b-lD a)) (lD b-lD a)).den:Int),0)else(0,0,whyR a b)
theorem r8Y_bad {a b:Int} (h:whyR a b≠0):r8Y a b=(0,0,whyR a b):=by unfold r8Y;rw[if_neg h]
theorem actual_By360_w {a1 a2:Int} {res:SV} (H:((cE a1)≠0→(SV.tup [.agg [I 0,I 0],I 3])=res)∧((cE a1)=0→((cE a2)≠0→(SV.tup [.agg [I 0,I 0],I 3])=res)∧((cE a2)=0→(a1>a2→(SV.tup [.agg [I 0,I 0],I 4])=res)∧(¬a1>a2→Ir (a2-a1)∧I63 (a2-a1)∧RT (mkI (a2-a1) 360)=res)))):
  S 147 [I a1,I a2] [] res []:=by
 refine SCall.st fun X hX=> ?_
 obtain⟨H1,H2⟩:=H
 refine hX.go [i_,i_,c_ [] (cOfT a1),c_ [] (cOfT a2)] ?_
 by_cases h0:(cE a1)=0
 ·obtain⟨H1,H2⟩:=H2 h0
  refine hX.go [f_ (bne_eq_false_iff_eq.2 h0),f_ (bne_eq_false_iff_eq.2 h0),f_ (bne_eq_false_iff_eq.2 h0)] ?_
  by_cases h1:(cE a2)=0
  ·obtain⟨H1,H2⟩:=H2 h1
   refine hX.go [f_ (bne_eq_false_iff_eq.2 h1)] ?_
   by_cases h2:a1>a2
   ·obtain rfl:=H1 h2
    exact hX.e [t_ (dt h2),i_,c_ [] (show S 171 [.ifc 322 (.agg [I a1,I a2, .val (errS Env.n1)]), .val (errS Env.n0)] [] (B false) []from isP10 _ _),f_ rf,c_ [] (show S 171 [.ifc 322 (.agg [I a1,I a2, .val (errS Env.n1)]), .val (errS Env.n1)] [] (B true) []from isP11 _ _),t_ rt,t_ (show((4:Int) !=0)=true from rfl)]
   ·obtain⟨h3,h4,rfl⟩:=H2 h2
    exact hX.e [f_ (df h2),i_,c_ [] (show S 171 [.val .nilIface, .val (errS Env.n0)] [] (B false) []from isNil_S _),f_ rf,c_ [] (show S 171 [.val .nilIface, .val (errS Env.n1)] [] (B false) []from isNil_S _),f_ rf,f_ (show((0:Int) !=0)=false from rfl),q_ h3,i_,c_ [] (show S 191 [I (a2-a1),I 360] [] (RT (mkI (a2-a1) 360)) []from r_NewI h4 (by decide))]
  ·obtain rfl:=H1 h1
   exact hX.e [t_ (bne_iff_ne.2 h1),i_,c_ [] (show S 171 [.ifc 322 (.agg [I a1,I a2, .val (errS Env.n0)]), .val (errS Env.n0)] [] (B true) []from isP00 _ _),t_ rt,t_ (show((3:Int) !=0)=true from rfl)]
 ·obtain rfl:=H1 h0
  exact hX.e [t_ (bne_iff_ne.2 h0),t_ (bne_iff_ne.2 h0),t_ (bne_iff_ne.2 h0),t_ rt,i_,c_ [] (show S 171 [.ifc 322 (.agg [I a1,I a2, .val (errS Env.n0)]), .val (errS Env.n0)] [] (B true) []from isP00 _ _),t_ rt,t_ (show((3:Int) !=0)=true from rfl)]
theorem act360 (a b:Int):SCall Tryz.prog GL 147 [I a,I b] [] (RT (r8 a b 360)) []:=
 actual_By360_w ⟨fun h=>by rw[r8_bad]<;>rw[why_c.1 h];decide,fun h=>⟨fun h1=>by rw[r8_bad]<;>rw[why_c.2.1 h1];decide,fun h1=>⟨fun h2=>by rw[r8_bad]<;>rw[why_c.2.2.1 h h1 h2];decide,fun h2=>by
  have h3:=why_c.2.2.2 h h1 h2
  have:=why_ab h3
  exact⟨by simp only[Ir,InR];omega,by unfold I63;omega,by rw[r8,if_pos h3]⟩⟩⟩⟩
theorem actual_By365_w {a1 a2:Int} {res:SV} (H:((cE a1)≠0→(SV.tup [.agg [I 0,I 0],I 3])=res)∧((cE a1)=0→((cE a2)≠0→(SV.tup [.agg [I 0,I 0],I 3])=res)∧((cE a2)=0→(a1>a2→(SV.tup [.agg [I 0,I 0],I 4])=res)∧(¬a1>a2→Ir (a2-a1)∧I63 (a2-a1)∧RT (mkI (a2-a1) 365)=res)))):
  S 148 [I a1,I a2] [] res []:=by
 refine SCall.st fun X hX=> ?_
 obtain⟨H1,H2⟩:=H
 refine hX.go [i_,i_,c_ [] (cOfT a1),c_ [] (cOfT a2)] ?_
 by_cases h0:(cE a1)=0
 ·obtain⟨H1,H2⟩:=H2 h0
  refine hX.go [f_ (bne_eq_false_iff_eq.2 h0),f_ (bne_eq_false_iff_eq.2 h0),f_ (bne_eq_false_iff_eq.2 h0)] ?_
  by_cases h1:(cE a2)=0
  ·obtain⟨H1,H2⟩:=H2 h1
   refine hX.go [f_ (bne_eq_false_iff_eq.2 h1)] ?_
   by_cases h2:a1>a2
   ·obtain rfl:=H1 h2
    exact hX.e [t_ (dt h2),i_,c_ [] (show S 171 [.ifc 322 (.agg [I a1,I a2, .val (errS Env.n1)]), .val (errS Env.n0)] [] (B false) []from isP10 _ _),f_ rf,c_ [] (show S 171 [.ifc 322 (.agg [I a1,I a2, .val (errS Env.n1)]), .val (errS Env.n1)] [] (B true) []from isP11 _ _),t_ rt,t_ (show((4:Int) !=0)=true from rfl)]
   ·obtain⟨h3,h4,rfl⟩:=H2 h2
    exact hX.e [f_ (df h2),i_,c_ [] (show S 171 [.val .nilIface, .val (errS Env.n0)] [] (B false) []from isNil_S _),f_ rf,c_ [] (show S 171 [.val .nilIface, .val (errS Env.n1)] [] (B false) []from isNil_S _),f_ rf,f_ (show((0:Int) !=0)=false from rfl),q_ h3,i_,c_ [] (show S 191 [I (a2-a1),I 365] [] (RT (mkI (a2-a1) 365)) []from r_NewI h4 (by decide))]
  ·obtain rfl:=H1 h1
   exact hX.e [t_ (bne_iff_ne.2 h1),i_,c_ [] (show S 171 [.ifc 322 (.agg [I a1,I a2, .val (errS Env.n0)]), .val (errS Env.n0)] [] (B true) []from isP00 _ _),t_ rt,t_ (show((3:Int) !=0)=true from rfl)]
 ·obtain rfl:=H1 h0
  exact hX.e [t_ (bne_iff_ne.2 h0),t_ (bne_iff_ne.2 h0),t_ (bne_iff_ne.2 h0),t_ rt,i_,c_ [] (show S 171 [.ifc 322 (.agg [I a1,I a2, .val (errS Env.n0)]), .val (errS Env.n0)] [] (B true) []from isP00 _ _),t_ rt,t_ (show((3:Int) !=0)=true from rfl)]
theorem act365 (a b:Int):SCall Tryz.prog GL 148 [I a,I b] [] (RT (r8 a b 365)) []:=
 actual_By365_w ⟨fun h=>by rw[r8_bad]<;>rw[why_c.1 h];decide,fun h=>⟨fun h1=>by rw[r8_bad]<;>rw[why_c.2.1 h1];decide,fun h1=>⟨fun h2=>by rw[r8_bad]<;>rw[why_c.2.2.1 h h1 h2];decide,fun h2=>by
  have h3:=why_c.2.2.2 h h1 h2
  have:=why_ab h3
  exact⟨by simp only[Ir,InR];omega,by unfold I63;omega,by rw[r8,if_pos h3]⟩⟩⟩⟩
noncomputable def actual_ByYears_h0 (x1:Int) (x2:Int) (x3:Int) (x4:Int) (x5:Int) (x6:Int) (x7:Int) (x8:Int) (x9:Int) (x10:Int) (x11:Int) (x12:Int) (x13:Int) (x14:Int) (x15:Int) (m9_:Int→Int):SC:=
 ⟨[⟨193,slo 75 [(0, .ptr 0 0),(1, .ptr 1 0),(2, .ptr 6 0),(4, .ptr 7 0),(8, .mp 9),(32,I x1),(33,I x2)],[.code (bodyAt Tryz.f193 [1,1,1,1,0,1,0,0]), .inLoop (bodyAt Tryz.f193 [1,1,1,1,0,1,0,0]), .inBlock 0, .code (bodyAt Tryz.f193 [1,1,1,1,1])],{}⟩,⟨189,slo 21 [(6, .ptr 3 0),(17, .fn (.func 193) [] [.ptr 0 0, .ptr 1 0])],[.inRegion (opsAt Tryz.f189 [1,1,0]) [1,2,3,4,5], .code (bodyAt Tryz.f189 [1,1,1])],{}⟩,⟨149,[none,none,none,none,some (.ptr 2 0),none,some (I x3),some (I x4),some (.fn (.func 193) [] [.ptr 0 0, .ptr 1 0]),none,none,none],[.inRegion (opsAt Tryz.f149 [1,0]) [3,4,5,6,7], .code (bodyAt Tryz.f149 [1,1])],{}⟩],[some (.box true [I x5]),some (.box true [I x6]),some (.box true [I x7,I x8]),some (.box true [I x9,I x10]),none,none,some (.box true [I x11,I x12]),some (.box true [I x13,I x14,I x15]),none,some (.map true .i64 .i64 m9_ [])]⟩
theorem actual_ByYears_w0 {X:Cx} {a1 a2:Int} {res:SV} (hX:Fi X 149 [] res []) (H:((cE a1)≠0→(SV.tup [.agg [I 0,I 0],I 3])=res)∧((cE a1)=0→((cE a2)≠0→(SV.tup [.agg [I 0,I 0],I 3])=res)∧((cE a2)=0→(a1>a2→(SV.tup [.agg [I 0,I 0],I 4])=res)∧(¬a1>a2→Ir ((cY a2)-(cY a1))∧Ir (((cY a2)-(cY a1))+1)∧Ok X (actual_ByYears_h0 (((cY a2)-(cY a1))+1) 0 a1 a2 a1 a2 0 0 0 0 0 0 (cY a1) (cM a1) (cD a1) (fun a=>0)))))):
  Ok X (entry Tryz.prog 149 [I a1,I a2] []):=by
 obtain⟨H1,H2⟩:=H
 refine hX.go [i_,i_,c_ [] (cOfT a1),c_ [] (cOfT a2)] ?_
 by_cases h0:(cE a1)=0
 ·obtain⟨H1,H2⟩:=H2 h0
  refine hX.go [f_ (bne_eq_false_iff_eq.2 h0),f_ (bne_eq_false_iff_eq.2 h0),f_ (bne_eq_false_iff_eq.2 h0)] ?_
  by_cases h1:(cE a2)=0
  ·obtain⟨H1,H2⟩:=H2 h1
   refine hX.go [f_ (bne_eq_false_iff_eq.2 h1)] ?_
   by_cases h2:a1>a2
   ·obtain rfl:=H1 h2
    exact hX.e [t_ (dt h2),i_,c_ [] (show S 171 [.ifc 322 (.agg [I a1,I a2, .val (errS Env.n1)]), .val (errS Env.n0)] [] (B false) []from isP10 _ _),f_ rf,c_ [] (show S 171 [.ifc 322 (.agg [I a1,I a2, .val (errS Env.n1)]), .val (errS Env.n1)] [] (B true) []from isP11 _ _),t_ rt,t_ (show((4:Int) !=0)=true from rfl)]
   ·obtain⟨h3,h4,k⟩:=H2 h2
    exact hX.h 95 [f_ (df h2),i_,c_ [] (show S 171 [.val .nilIface, .val (errS Env.n0)] [] (B false) []from isNil_S _),f_ rf,c_ [] (show S 171 [.val .nilIface, .val (errS Env.n1)] [] (B false) []from isNil_S _),f_ rf,f_ (show((0:Int) !=0)=false from rfl),i_,c_ [] (cOfT a1),c_ [] (cOfT a2),q_ h3,q_ h4] [.old 0, .old 1, .old 2, .old 3, .old 1004, .old 1005, .old 6, .old 7, .old 1008, .old 9] k
  ·obtain rfl:=H1 h1
   exact hX.e [t_ (bne_iff_ne.2 h1),i_,c_ [] (show S 171 [.ifc 322 (.agg [I a1,I a2, .val (errS Env.n0)]), .val (errS Env.n0)] [] (B true) []from isP00 _ _),t_ rt,t_ (show((3:Int) !=0)=true from rfl)]
 ·obtain rfl:=H1 h0
  exact hX.e [t_ (bne_iff_ne.2 h0),t_ (bne_iff_ne.2 h0),t_ (bne_iff_ne.2 h0),t_ rt,i_,c_ [] (show S 171 [.ifc 322 (.agg [I a1,I a2, .val (errS Env.n0)]), .val (errS Env.n0)] [] (B true) []from isP00 _ _),t_ rt,t_ (show((3:Int) !=0)=true from rfl)]
theorem actual_ByYears_w1 {X:Cx} {x1 x2 x3 x4 x5 x6 x7 x8 x9 x10 x11 x12 x13 x14 x15:Int} {m9_:Int→Int} {res:SV} (hX:Fi X 149 [] res []) (H:(x2<x1→Ir (x13+x2)∧ ∃ r5016 r5017:Int,S 194 [I (x13+x2)] [] (.tup [I r5016,I r5017]) []∧Ir (r5016+r5017)∧Ir ((mnI x6 (r5016+r5017))-(mxI x5 r5016))∧Ir ((m9_ r5017)+((mnI x6 (r5016+r5017))-(mxI x5 r5016)))∧Ir (x2+1)∧Ok X (actual_ByYears_h0 x1 (x2+1) x3 x4 x5 x6 x7 x8 x9 x10 x11 x12 x13 x14 x15 (fun a=>if a=r5017 then((m9_ r5017)+((mnI x6 (r5016+r5017))-(mxI x5 r5016)))else m9_ a)))∧(¬x2<x1→I63 (m9_ 365)∧I63 (m9_ 366)∧ ∃ r5016 r5017 r5018:Int,S 195 [.agg [I ((mkI (m9_ 365) 365).1),I ((mkI (m9_ 365) 365).2.1)], .agg [I ((mkI (m9_ 366) 366).1),I ((mkI (m9_ 366) 366).2.1)]] [] (.tup [.agg [I r5016,I r5017],I r5018]) []∧(SV.tup [.agg [I r5016,I r5017],I r5018])=res)):
  Ok X (actual_ByYears_h0 x1 x2 x3 x4 x5 x6 x7 x8 x9 x10 x11 x12 x13 x14 x15 m9_):=by
 obtain⟨H1,H2⟩:=H
 by_cases h0:x2<x1
 ·obtain⟨h1,r5016,r5017,h2,h3,h4,h5,h6,k⟩:=H1 h0
  exact hX.h 49 [t_ (dt h0),q_ h1,c_ [] h2,q_ h3,q_ h4,q_ h5,q_ h6] [.old 0, .old 1, .old 2, .old 3, .old 1004, .old 1005, .old 6, .old 7, .old 1008, .old 9] k
 ·obtain⟨h1,h2,r5016,r5017,r5018,h3,rfl⟩:=H2 h0
  exact hX.e [f_ (df h0),c_ [] (show S 191 [I (m9_ 365),I 365] [] (RT (mkI (m9_ 365) 365)) []from r_NewI h1 (by decide)),c_ [] (show S 191 [I (m9_ 366),I 366] [] (RT (mkI (m9_ 366) 366)) []from r_NewI h2 (by decide)),c_ [] h3]
theorem act_loop {X:Cx} {a b:Int} (h:whyR a b=0) {x7 x8 x9 x10 x11 x12 x14 x15:Int} (hX:Fi X 149 [] (RT (r8Y a b)) []):
  ∀ (m:Nat) (i:Int) (f:Int→Int),(cY b-cY a-i).toNat=m→0≤i→i≤cY b-cY a→f 366=lG (cY a+i) (mxI a (ahd (cY a+i)+1))-lD a→f 365=mxI a (ahd (cY a+i)+1)-a-f 366→
    Ok X (actual_ByYears_h0 (cY b-cY a+1) i a b a b x7 x8 x9 x10 x11 x12 (cY a) x14 x15 f):=by
 have h':=why_0.1 h
 have hab:=why_ab h
 have ha:=day_yr h'.1
 have hb:=day_yr h'.2.1
 have hsp:=lD_span h
 intro m
 induction m with
 |zero=>
  intro i f hm h0 h1 h2 h3
  have hi:cY a+i=cY b:=by omega
  have e2:=ahd_succ (cY b) hb.1
  have hl:=ahd_le hb.1 (by omega)
  rw[hi]at h2 h3
  have hmx:a≤mxI a (ahd (cY b)+1)∧ahd (cY b)+1≤mxI a (ahd (cY b)+1)∧mxI a (ahd (cY b)+1)≤b:=by unfold mxI;split<;>omega
  have hmn:mnI b (ahd (cY b)+1+(if lp (cY b)=true then 366 else 365))=b:=by unfold mnI;split<;>split at e2<;>simp_all<;>omega
  have hG:lG (cY b) b=lG (cY b) (mxI a (ahd (cY b)+1))+if lp (cY b)=true then b-mxI a (ahd (cY b)+1)else 0:=by unfold lG;split<;>omega
  have hk:=lG_span (y:=cY a) (p:=a) ha.1 (by omega) i.toNat (mxI a (ahd (cY b)+1)) (by rw[show cY a+(i.toNat:Int)=cY b by omega];omega) (by omega)
  rw[show cY a+(i.toNat:Int)=cY b by omega]at hk
  have hD:lD b=lG (cY b) b:=rfl
  have hDa:lD a=lG (cY a) a:=rfl
  have hEnd:SCall Tryz.prog GL 194 [I (cY a+i)] [] (.tup [I (ahd (cY b)+1),I (if lp (cY b)=true then 366 else 365)]) []:=by
   rw[hi];exact aEnds (by omega) (by omega)
  refine actual_ByYears_w1 hX ⟨fun c=>⟨by simp only[Ir,InR];omega,_,_,hEnd, ?_⟩,fun c=>by omega⟩
  rw[hmn]
  have fin: ∀ g:Int→Int,g 366=lD b-lD a→g 365=b-a-(lD b-lD a)→Ok X (actual_ByYears_h0 (cY b-cY a+1) (i+1) a b a b x7 x8 x9 x10 x11 x12 (cY a) x14 x15 g):=fun g g1 g2=>by
   refine actual_ByYears_w1 hX ⟨fun c=>by omega,fun c=>⟨by unfold I63;omega,by unfold I63;omega, ?_⟩⟩
   have:=r_AddG (C:=(b-a-(lD b-lD a)).toNat) (M:=365) (c:=(lD b-lD a).toNat) (N:=366) (by decide) (by decide) (by omega) (by omega) (by decide) (by decide)
   rw[show(((lD b-lD a).toNat:Nat):Int)=lD b-lD a by omega,show(((b-a-(lD b-lD a)).toNat:Nat):Int)=b-a-(lD b-lD a)by omega]at this
   rw[g1,g2,mkI_q (n:=lD b-lD a) (d:=366) (by omega) (by decide),mkI_q (n:=b-a-(lD b-lD a)) (d:=365) (by omega) (by decide)]
   refine⟨_,_,_,this, ?_⟩
   unfold r8Y q8
   rw[if_pos h]
  cases hl2:lp (cY b)<;>rw[hl2]at hG<;>simp only[Bool.false_eq_true,if_false,if_true]at hG⊢
  ·exact⟨by simp only[Ir,InR];omega,by simp only[Ir,InR];omega,by simp only[Ir,InR];omega,by simp only[Ir,InR];omega,fin _ (by simp;omega) (by simp;omega)⟩
  ·exact⟨by simp only[Ir,InR];omega,by simp only[Ir,InR];omega,by simp only[Ir,InR];omega,by simp only[Ir,InR];omega,fin _ (by simp;omega) (by simp;omega)⟩
 |succ m ih=>
  intro i f hm h0 h1 h2 h3
  have hyb:1≤cY a+i∧cY a+i<cY b:=by omega
  generalize hy:cY a+i=y at*
  have e2:=ahd_succ y hyb.1
  have hl:=ahd_le hyb.1 (by omega)
  have hm1:ahd (cY a+1)≤ahd (y+1):=ahd_mono (by omega)
  have hm2:ahd (y+1)≤ahd (cY b):=ahd_mono (by omega)
  have hm3:ahd y≤ahd (y+1):=ahd_mono (by omega)
  have hmx:a≤mxI a (ahd y+1)∧ahd y+1≤mxI a (ahd y+1)∧mxI a (ahd y+1)≤ahd (y+1)+1:=by unfold mxI;split<;>omega
  have hmx2:mxI a (ahd (y+1)+1)=ahd (y+1)+1:=by unfold mxI;split<;>omega
  have hmn:mnI b (ahd y+1+(if lp y=true then 366 else 365))=ahd (y+1)+1:=by unfold mnI;cases hl3:lp y<;>rw[hl3]at e2<;>simp at e2⊢ <;>split<;>omega
  have hG:lG y (ahd (y+1)+1)=lG y (mxI a (ahd y+1))+if lp y=true then ahd (y+1)+1-mxI a (ahd y+1)else 0:=by unfold lG;split<;>omega
  have hk:=lG_span (y:=cY a) (p:=a) ha.1 (by omega) i.toNat (mxI a (ahd y+1)) (by rw[show cY a+(i.toNat:Int)=y by omega];omega) (by omega)
  rw[show cY a+(i.toNat:Int)=y by omega]at hk
  have hDa:lD a=lG (cY a) a:=rfl
  have hE:=lG_end hyb.1
  have hEnd:SCall Tryz.prog GL 194 [I (cY a+i)] [] (.tup [I (ahd y+1),I (if lp y=true then 366 else 365)]) []:=by
   rw[hy];exact aEnds (by omega) (by omega)
  refine actual_ByYears_w1 hX ⟨fun c=>⟨by simp only[Ir,InR];omega,_,_,hEnd, ?_⟩,fun c=>by omega⟩
  rw[hmn]
  have fin: ∀ g:Int→Int,g 366=lG y (ahd (y+1)+1)-lD a→g 365=ahd (y+1)+1-a-g 366→Ok X (actual_ByYears_h0 (cY b-cY a+1) (i+1) a b a b x7 x8 x9 x10 x11 x12 (cY a) x14 x15 g):=fun g g1 g2=>by
   refine ih (i+1) g (by omega) (by omega) (by omega) ?_ ?_
   ·rw[show cY a+(i+1)=y+1 by omega,hmx2,←hE];exact g1
   ·rw[show cY a+(i+1)=y+1 by omega,hmx2];exact g2
  cases hl2:lp y<;>rw[hl2]at hG<;>simp only[Bool.false_eq_true,if_false,if_true]at hG⊢
  ·exact⟨by simp only[Ir,InR];omega,by simp only[Ir,InR];omega,by simp only[Ir,InR];omega,by simp only[Ir,InR];omega,fin _ (by simp;omega) (by simp;omega)⟩
  ·exact⟨by simp only[Ir,InR];omega,by simp only[Ir,InR];omega,by simp only[Ir,InR];omega,by simp only[Ir,InR];omega,fin _ (by simp;omega) (by simp;omega)⟩
theorem actYears (a b:Int):SCall Tryz.prog GL 149 [I a,I b] [] (RT (r8Y a b)) []:=by
 refine SCall.of (by kernel_rfl) rfl trivial rfl (fun X hX=> ?_)
 refine actual_ByYears_w0 hX ⟨fun h=>by rw[r8Y_bad]<;>rw[why_c.1 h];decide,fun h=>⟨fun h1=>by rw[r8Y_bad]<;>rw[why_c.2.1 h1];decide,fun h1=>⟨fun h2=>by rw[r8Y_bad]<;>rw[why_c.2.2.1 h h1 h2];decide,fun h2=> ?_⟩⟩⟩
 have h3:=why_c.2.2.2 h h1 h2
 have h':=why_0.1 h3
 have ha:=day_yr h'.1
 have hb:=day_yr h'.2.1
 have:=yr_mono h'.1 h'.2.1 (by omega)
 refine⟨by simp only[Ir,InR];omega,by simp only[Ir,InR];omega,act_loop h3 hX _ 0 _ rfl (by omega) (by omega) ?_ ?_⟩
 all_goals (rw[show cY a+0=cY a by omega,show mxI a (ahd (cY a)+1)=a by unfold mxI;split<;>omega])
 ·unfold lD;omega
 ·omega
end Go.Proofs.YtelidogcomffkaaGreatDoor
