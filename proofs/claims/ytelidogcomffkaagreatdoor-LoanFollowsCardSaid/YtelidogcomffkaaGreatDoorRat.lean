import Derived.Test.YtelidogcomffkaaGreatDoorBit
import Derived.Test.YtelidogcomffkaaGreatDoorProg
import Derived.KernelRfl
import Derived.Laws.Externs
set_option linter.unusedSectionVars false
set_option linter.unusedSimpArgs false
set_option linter.unusedVariables false
set_option maxRecDepth 100000
namespace Go.Proofs.YtelidogcomffkaaGreatDoor
open Go Go.Sx
variable [Env]
theorem ratio_Gcd_0 {a1 a2:Int} (h0:a2=0):
  S 200 [N .u64 a1,N .u64 a2] [] (N .u64 a1) []:=
 SCall.path 19 [tb] [] 0 (by kernel_rfl) rfl (by exact trivial) (ca (beq_iff_eq.2 h0) na)
noncomputable def ratio_Gcd_h0 (x1:Int) (x2:Int):SC:=
 ⟨[⟨200,[some (N .u64 x1),some (N .u64 x2),none,none,none,none,none,none,none,none,none,none],[.code (.seq .skip (bodyAt Tryz.f200 [1,0,1])), .inScope (bodyAt Tryz.f200 [1,0])],{}⟩],[]⟩
theorem ratio_Gcd_1 {X:Cx} {res:SV} {new:List (Option Vw)} {a1 a2:Int} (hX:Fi X 200 [] res new) (h0:a2≠0) (h1:(0:Int)≤a1) (h2:(0:Int)<a2) (k:Ok X (ratio_Gcd_h0 a2 (a1%a2))):
  Ok X (entry Tryz.prog 200 [N .u64 a1,N .u64 a2] []):=
 Ok.cutM 20 [fb, .draw 5 [] 0] [[true,true,false,false,false,false,false,false,false,false,false,false]] [] 0 hX.P hX.gl hX.n0 (by kernel_rfl) (by kernel_rfl) (by exact trivial) (ca (beq_eq_false_iff_ne.2 h0) (ca h1 (ca h2 na))) k
theorem ratio_Gcd_2 {X:Cx} {x1 x2:Int} (hX:Fi X 200 [] (N .u64 x1) []) (h0:x2=0):
  Ok X (ratio_Gcd_h0 x1 x2):=
 Ok.fin 14 [tb] [] 0 hX (by kernel_rfl) rfl (ca (beq_iff_eq.2 h0) na)
theorem ratio_Gcd_3 {X:Cx} {res:SV} {new:List (Option Vw)} {x1 x2:Int} (hX:Fi X 200 [] res new) (h0:x2≠0) (h1:(0:Int)≤x1) (h2:(0:Int)<x2) (k:Ok X (ratio_Gcd_h0 x2 (x1%x2))):
  Ok X (ratio_Gcd_h0 x1 x2):=
 Ok.cutM 15 [fb, .draw 5 [] 0] [[true,true,false,false,false,false,false,false,false,false,false,false]] [] 0 hX.P hX.gl hX.n0 (by kernel_rfl) (by kernel_rfl) (by exact trivial) (ca (beq_eq_false_iff_ne.2 h0) (ca h1 (ca h2 na))) k
theorem rGcd_loop {X:Cx} {g:Nat} (hX:IsFin X Tryz.prog GL 200 [] (N .u64 (g:Int)) []): ∀ (m a b:Nat),b≤m→Nat.gcd a b=g→Ok X (ratio_Gcd_h0 (a:Int) (b:Int)):=by
 intro m
 induction m with
 |zero=>
  intro a b hm hg
  have:b=0:=by omega
  subst this
  rw[Nat.gcd_zero_right]at hg
  subst hg
  exact ratio_Gcd_2 hX rfl
 |succ m ih=>
  intro a b hm hg
  by_cases h:b=0
  ·subst h
   rw[Nat.gcd_zero_right]at hg
   subst hg
   exact ratio_Gcd_2 hX rfl
  ·have h1:=Nat.mod_lt a (Nat.pos_of_ne_zero h)
   refine ratio_Gcd_3 hX (by omega) (by omega) (by omega) ?_
   refine ih b (a%b) (by omega) ?_
   rw[←hg,Nat.gcd_comm a b,Nat.gcd_rec b a,Nat.gcd_comm]
theorem rGcd (a b:Nat):SCall Tryz.prog GL 200 [N .u64 (a:Int),N .u64 (b:Int)] [] (N .u64 ((Nat.gcd a b:Nat):Int)) []:=by
 by_cases h:b=0
 ·subst h
  rw[Nat.gcd_zero_right]
  exact ratio_Gcd_0 rfl
 ·refine SCall.of (by kernel_rfl) rfl trivial rfl (fun X hX=> ?_)
  refine ratio_Gcd_1 hX (by omega) (by omega) (by omega) ?_
  refine rGcd_loop hX (a%b) b (a%b) (Nat.le_refl _) ?_
  rw[Nat.gcd_comm a b,Nat.gcd_rec b a,Nat.gcd_comm]
theorem ratio_told_0 {a1 a2 a3 a4 r5 r6 r7:Int} (h0:S 223 [N .u64 4611686018427387904] [] (.agg [N .u64 r5,N .u64 r6]) []) (h1:S 239 [.agg [N .u64 a1,N .u64 a2], .agg [N .u64 r5,N .u64 r6]] [] (I r7) []) (h2:r7>0):
  S 222 [.agg [N .u64 a1,N .u64 a2], .agg [N .u64 a3,N .u64 a4]] [] (.tup [.agg [I 0,I 0],I 6]) []:=
 SCall.path 34 [.call [] (.agg [N .u64 r5,N .u64 r6]) [], .call [] (I r7) [],tb,tb,tb,tb,tb,tb] [] 4 (by kernel_rfl) rfl (by exact trivial) (ca h0 (ca h1 (ca (dt h2) (ca (dt h2) (ca (dt h2) (ca (dt h2) (ca (dt h2) (ca rt na))))))))
theorem ratio_told_1 {a1 a2 a3 a4 r5 r6 r7 r8:Int} (h0:S 223 [N .u64 4611686018427387904] [] (.agg [N .u64 r5,N .u64 r6]) []) (h1:S 239 [.agg [N .u64 a1,N .u64 a2], .agg [N .u64 r5,N .u64 r6]] [] (I r7) []) (h2: ¬r7>0) (h3:S 239 [.agg [N .u64 a3,N .u64 a4], .agg [N .u64 r5,N .u64 r6]] [] (I r8) []) (h4:r8>0):
  S 222 [.agg [N .u64 a1,N .u64 a2], .agg [N .u64 a3,N .u64 a4]] [] (.tup [.agg [I 0,I 0],I 6]) []:=
 SCall.path 34 [.call [] (.agg [N .u64 r5,N .u64 r6]) [], .call [] (I r7) [],fb,fb,fb, .call [] (I r8) [],fb,fb,tb] [] 4 (by kernel_rfl) rfl (by exact trivial) (ca h0 (ca h1 (ca (df h2) (ca (df h2) (ca (df h2) (ca h3 (ca (df h2) (ca (df h2) (ca (dt h4) na)))))))))
theorem ratio_told_2 {a1 a2 a3 a4 r5 r6 r7 r8:Int} (h0:S 223 [N .u64 4611686018427387904] [] (.agg [N .u64 r5,N .u64 r6]) []) (h1:S 239 [.agg [N .u64 a1,N .u64 a2], .agg [N .u64 r5,N .u64 r6]] [] (I r7) []) (h2: ¬r7>0) (h3:S 239 [.agg [N .u64 a3,N .u64 a4], .agg [N .u64 r5,N .u64 r6]] [] (I r8) []) (h4: ¬r8>0) (h5:InR .i64 a2) (h6:InR .i64 a4):
  S 222 [.agg [N .u64 a1,N .u64 a2], .agg [N .u64 a3,N .u64 a4]] [] (.tup [.agg [I a2,I a4],I 0]) []:=
 SCall.path 41 [.call [] (.agg [N .u64 r5,N .u64 r6]) [], .call [] (I r7) [],fb,fb,fb, .call [] (I r8) [],fb,fb,fb] [] 4 (by kernel_rfl) rfl (by exact trivial) (ca h0 (ca h1 (ca (df h2) (ca (df h2) (ca (df h2) (ca h3 (ca (df h2) (ca (df h2) (ca (df h4) (ca h5 (ca h6 na)))))))))))
def mkT (n d:Nat):Int×Int×Int:=if n>4611686018427387904∨d>4611686018427387904 then(0,0,6)else((n:Int),(d:Int),0)
theorem rtold (n d:Nat):SCall Tryz.prog GL 222 [wideV n,wideV d] [] (RT (mkT n d)) []:=by
 have c0:= @Of_wide _ 4611686018427387904 (by decide)
 have c1:=Cmp_wide n 4611686018427387904
 have c2:=Cmp_wide d 4611686018427387904
 have hc: ∀ x:Nat,cmpI (x:Int) ((4611686018427387904:Nat):Int)>0↔x>4611686018427387904:=by
  intro x;unfold cmpI;split<;>(try split)<;>omega
 unfold mkT
 by_cases h1:n>4611686018427387904
 ·rw[if_pos (.inl h1)]
  exact ratio_told_0 c0 c1 ((hc _).2 h1)
 ·by_cases h2:d>4611686018427387904
  ·rw[if_pos (.inr h2)]
   exact ratio_told_1 c0 c1 (fun h=>h1 ((hc _).1 h)) c2 ((hc _).2 h2)
  ·rw[if_neg (by omega)]
   have h:= @ratio_told_2 _ ((n/18446744073709551616:Nat):Int) ((n%18446744073709551616:Nat):Int) ((d/18446744073709551616:Nat):Int) ((d%18446744073709551616:Nat):Int) _ _ _ _ c0 c1 (fun h=>h1 ((hc _).1 h)) c2 (fun h=>h2 ((hc _).1 h)) (by simp only[InR];omega) (by simp only[InR];omega)
   rw[show n%18446744073709551616=n by omega,show d%18446744073709551616=d by omega]at h
   unfold wideV
   rw[show n%18446744073709551616=n by omega,show d%18446744073709551616=d by omega]
   exact h
theorem ratio_New_3 {a1 a2 r3 r4 r5 r6 r7 r8 r9 r10:Int} (h0: ¬a1<0) (h1: ¬a2<0) (h2:a2≠0) (h3:InR .u64 a1) (h4:InR .u64 a2) (h5:S 200 [N .u64 a1,N .u64 a2] [] (N .u64 r3) []) (h6:(0:Int)≤a1) (h7:(0:Int)<r3) (h8:InR .u64 (a1/r3)) (h9:S 223 [N .u64 (a1/r3)] [] (.agg [N .u64 r4,N .u64 r5]) []) (h10:(0:Int)≤a2) (h11:InR .u64 (a2/r3)) (h12:S 223 [N .u64 (a2/r3)] [] (.agg [N .u64 r6,N .u64 r7]) []) (h13:S 222 [.agg [N .u64 r4,N .u64 r5], .agg [N .u64 r6,N .u64 r7]] [] (.tup [.agg [I r8,I r9],I r10]) []):
  S 191 [I a1,I a2] [] (.tup [.agg [I r8,I r9],I r10]) []:=
 SCall.path 41 [fb,fb,fb,fb,fb, .call [] (N .u64 r3) [], .draw 13 [] 0, .call [] (.agg [N .u64 r4,N .u64 r5]) [], .call [] (.agg [N .u64 r6,N .u64 r7]) [], .call [] (.tup [.agg [I r8,I r9],I r10]) []] [] 1 (by kernel_rfl) rfl (by exact trivial) (ca (df h0) (ca (df h0) (ca (df h0) (ca (df h1) (ca (beq_eq_false_iff_ne.2 h2) (ca h3 (ca h4 (ca h5 (ca h3 (ca h6 (ca h7 (ca h8 (ca h9 (ca h4 (ca h10 (ca h7 (ca h11 (ca h12 (ca h13 na)))))))))))))))))))
theorem mkR_T (n d:Nat):mkR n d=mkT (n/Nat.gcd n d) (d/Nat.gcd n d):=rfl
theorem r_New {n d:Nat} (hn:n<9223372036854775808) (hd:d<9223372036854775808) (hd0:d≠0):SCall Tryz.prog GL 191 [I (n:Int),I (d:Int)] [] (RT (mkR n d)) []:=by
 have hg0:Nat.gcd n d≠0:=fun h=>hd0 (Nat.eq_zero_of_gcd_eq_zero_right h)
 have e1:(n:Int)/((Nat.gcd n d:Nat):Int)=((n/Nat.gcd n d:Nat):Int):=by simp
 have e2:(d:Int)/((Nat.gcd n d:Nat):Int)=((d/Nat.gcd n d:Nat):Int):=by simp
 have l1:=Nat.div_le_self n (Nat.gcd n d)
 have l2:=Nat.div_le_self d (Nat.gcd n d)
 have c:=rtold (n/Nat.gcd n d) (d/Nat.gcd n d)
 have c1:= @Of_wide _ (n/Nat.gcd n d) (by omega)
 have c2:= @Of_wide _ (d/Nat.gcd n d) (by omega)
 have c0:=rGcd n d
 rw[←mkR_T]at c
 rw[←e1]at c1
 rw[←e2]at c2
 refine ratio_New_3 (by omega) (by omega) (by omega) (by simp only[InR];omega) (by simp only[InR];omega) c0 (by omega) (by omega) ?_ c1 (by omega) ?_ c2 c
 ·rw[e1];generalize n/Nat.gcd n d=q at*;simp only[InR];omega
 ·rw[e2];generalize d/Nat.gcd n d=q at*;simp only[InR];omega
theorem ratio_Add_0 {a1 a2 a3 a4 r5 r6 r7 r8 r9 r10 r11 r12 r13 r14 r15 r16 r17 r18 r19 r20 r21 r22 r23 r24 r25 r26:Int} (h0:InR .u64 a2) (h1:InR .u64 a4) (h2:S 200 [N .u64 a2,N .u64 a4] [] (N .u64 r5) []) (h3:InR .u64 a1) (h4:(0:Int)≤a4) (h5:(0:Int)<r5) (h6:InR .u64 (a4/r5)) (h7:S 202 [N .u64 a1,N .u64 (a4/r5)] [] (.agg [N .u64 r6,N .u64 r7]) []) (h8:InR .u64 a3) (h9:(0:Int)≤a2) (h10:InR .u64 (a2/r5)) (h11:S 202 [N .u64 a3,N .u64 (a2/r5)] [] (.agg [N .u64 r8,N .u64 r9]) []) (h12:S 224 [.agg [N .u64 r6,N .u64 r7], .agg [N .u64 r8,N .u64 r9]] [] (.tup [.agg [N .u64 r10,N .u64 r11],I r12]) []) (h13:S 225 [.agg [N .u64 r10,N .u64 r11],N .u64 r5] [] (.tup [.agg [N .u64 r13,N .u64 r14],N .u64 r15,I r16]) []) (h14:S 200 [N .u64 r15,N .u64 r5] [] (N .u64 r17) []) (h15:S 225 [.agg [N .u64 r10,N .u64 r11],N .u64 r17] [] (.tup [.agg [N .u64 r18,N .u64 r19],N .u64 r20,I r21]) []) (h16:(0:Int)<r17) (h17:InR .u64 (a4/r17)) (h18:S 202 [N .u64 (a2/r5),N .u64 (a4/r17)] [] (.agg [N .u64 r22,N .u64 r23]) []) (h19:S 222 [.agg [N .u64 r18,N .u64 r19], .agg [N .u64 r22,N .u64 r23]] [] (.tup [.agg [I r24,I r25],I r26]) []):
  S 195 [.agg [I a1,I a2], .agg [I a3,I a4]] [] (.tup [.agg [I r24,I r25],I r26]) []:=
 SCall.path 59 [.draw 7 [] 0, .call [] (N .u64 r5) [], .draw 19 [17] 1, .call [] (.agg [N .u64 r6,N .u64 r7]) [], .call [] (.agg [N .u64 r8,N .u64 r9]) [], .call [] (.tup [.agg [N .u64 r10,N .u64 r11],I r12]) [], .call [] (.tup [.agg [N .u64 r13,N .u64 r14],N .u64 r15,I r16]) [], .call [] (N .u64 r17) [], .call [] (.tup [.agg [N .u64 r18,N .u64 r19],N .u64 r20,I r21]) [], .draw 11 [] 0, .call [] (.agg [N .u64 r22,N .u64 r23]) [], .call [] (.tup [.agg [I r24,I r25],I r26]) []] [] 5 (by kernel_rfl) rfl (by exact trivial) (ca h0 (ca h1 (ca h2 (ca h3 (ca h4 (ca h5 (ca h6 (ca h7 (ca h8 (ca h9 (ca h5 (ca h10 (ca h11 (ca h12 (ca (re (I r12)) (ca (re (I r12)) (ca h13 (ca h14 (ca h15 (ca h9 (ca h5 (ca h10 (ca h4 (ca h16 (ca h17 (ca h18 (ca h19 na)))))))))))))))))))))))))))
theorem sum_gcd {a p b q:Nat} (hp:p≠0) (hq:q≠0) (ha:Nat.Coprime a p) (hb:Nat.Coprime b q):
  Nat.gcd (a*q+b*p) (p*q)=Nat.gcd p q*Nat.gcd (a*(q/Nat.gcd p q)+b*(p/Nat.gcd p q)) (Nat.gcd p q):=by
 have hg:0<Nat.gcd p q:=Nat.pos_of_ne_zero fun h=>hp (Nat.eq_zero_of_gcd_eq_zero_left h)
 obtain⟨p',hp'⟩:=Nat.gcd_dvd_left p q
 obtain⟨q',hq'⟩:=Nat.gcd_dvd_right p q
 have hc:=Nat.coprime_div_gcd_div_gcd hg
 generalize Nat.gcd p q=g at*
 subst hp' hq'
 rw[Nat.mul_div_cancel_left _ hg,Nat.mul_div_cancel_left _ hg]at*
 have ha':Nat.Coprime a p':=Nat.Coprime.coprime_dvd_right (Nat.dvd_mul_left _ _) ha
 have hb':Nat.Coprime b q':=Nat.Coprime.coprime_dvd_right (Nat.dvd_mul_left _ _) hb
 have h1:Nat.Coprime p' (a*q'+b*p'):=by
  rw[Nat.coprime_comm]
  show Nat.gcd _ _=1
  rw[Nat.gcd_add_mul_right_left]
  exact Nat.Coprime.mul_left ha' (Nat.coprime_comm.1 hc)
 have h2:Nat.Coprime q' (a*q'+b*p'):=by
  rw[Nat.coprime_comm]
  show Nat.gcd _ _=1
  rw[Nat.gcd_mul_right_add_left]
  exact Nat.Coprime.mul_left hb' hc
 rw[show a*(g*q')+b*(g*p')=g*(a*q'+b*p')by rw[Nat.mul_add,Nat.mul_left_comm,Nat.mul_left_comm b],Nat.mul_assoc g p' (g*q'),Nat.gcd_mul_left]
 congr 1
 rw[Nat.Coprime.gcd_mul_left_cancel_right _ h1,Nat.Coprime.gcd_mul_right_cancel_right _ h2]
theorem r_Add {a p b q:Nat} (hp:p≠0) (hq:q≠0) (ha:Nat.Coprime a p) (hb:Nat.Coprime b q) (ha1:a<9223372036854775808) (hb1:b<9223372036854775808) (hp1:p<9223372036854775808) (hq1:q<9223372036854775808) (hs:a*(q/Nat.gcd p q)+b*(p/Nat.gcd p q)<18446744073709551616):
  SCall Tryz.prog GL 195 [.agg [I (a:Int),I (p:Int)], .agg [I (b:Int),I (q:Int)]] [] (RT (mkR (a*q+b*p) (p*q))) []:=by
 have hg:0<Nat.gcd p q:=Nat.pos_of_ne_zero fun h=>hp (Nat.eq_zero_of_gcd_eq_zero_left h)
 have hsum:=sum_gcd hp hq ha hb
 have l1:=Nat.div_le_self q (Nat.gcd p q)
 have l2:=Nat.div_le_self p (Nat.gcd p q)
 have c2:=rGcd p q
 have c7:= @Mul_wide _ a (q/Nat.gcd p q) (by omega) (by omega)
 have c11:= @Mul_wide _ b (p/Nat.gcd p q) (by omega) (by omega)
 have c12:= @Add_wide _ (a*(q/Nat.gcd p q)) (b*(p/Nat.gcd p q)) (by omega)
 have c13:= @Div_wide _ (a*(q/Nat.gcd p q)+b*(p/Nat.gcd p q)) (Nat.gcd p q) (by omega) (by omega)
 have c14:=rGcd ((a*(q/Nat.gcd p q)+b*(p/Nat.gcd p q))%Nat.gcd p q) (Nat.gcd p q)
 have hh:Nat.gcd ((a*(q/Nat.gcd p q)+b*(p/Nat.gcd p q))%Nat.gcd p q) (Nat.gcd p q)=Nat.gcd (a*(q/Nat.gcd p q)+b*(p/Nat.gcd p q)) (Nat.gcd p q):=by
  rw[←Nat.gcd_rec,Nat.gcd_comm]
 rw[hh]at c14
 have hh0:0<Nat.gcd (a*(q/Nat.gcd p q)+b*(p/Nat.gcd p q)) (Nat.gcd p q):=Nat.pos_of_ne_zero fun h=>absurd (Nat.eq_zero_of_gcd_eq_zero_right h) (by omega)
 have hhd:Nat.gcd (a*(q/Nat.gcd p q)+b*(p/Nat.gcd p q)) (Nat.gcd p q)∣q:=Nat.dvd_trans (Nat.gcd_dvd_right _ _) (Nat.gcd_dvd_right p q)
 have hgp:=Nat.gcd_dvd_left p q
 have hgq:=Nat.gcd_dvd_right p q
 have l5:=Nat.div_le_self q (Nat.gcd (a*(q/Nat.gcd p q)+b*(p/Nat.gcd p q)) (Nat.gcd p q))
 have c15:= @Div_wide _ (a*(q/Nat.gcd p q)+b*(p/Nat.gcd p q)) (Nat.gcd (a*(q/Nat.gcd p q)+b*(p/Nat.gcd p q)) (Nat.gcd p q)) (by omega) (by omega)
 have c18:= @Mul_wide _ (p/Nat.gcd p q) (q/Nat.gcd (a*(q/Nat.gcd p q)+b*(p/Nat.gcd p q)) (Nat.gcd p q)) (by omega) (by omega)
 have c19:=rtold ((a*(q/Nat.gcd p q)+b*(p/Nat.gcd p q))/Nat.gcd (a*(q/Nat.gcd p q)+b*(p/Nat.gcd p q)) (Nat.gcd p q)) (p/Nat.gcd p q*(q/Nat.gcd (a*(q/Nat.gcd p q)+b*(p/Nat.gcd p q)) (Nat.gcd p q)))
 have e1:(q:Int)/((Nat.gcd p q:Nat):Int)=((q/Nat.gcd p q:Nat):Int):=by simp
 have e2:(p:Int)/((Nat.gcd p q:Nat):Int)=((p/Nat.gcd p q:Nat):Int):=by simp
 have e3: ∀ h:Nat,(q:Int)/(h:Int)=((q/h:Nat):Int):=fun h=>by simp
 rw[mkR_T,hsum]
 have hn:(a*q+b*p)/(Nat.gcd p q*Nat.gcd (a*(q/Nat.gcd p q)+b*(p/Nat.gcd p q)) (Nat.gcd p q))=(a*(q/Nat.gcd p q)+b*(p/Nat.gcd p q))/Nat.gcd (a*(q/Nat.gcd p q)+b*(p/Nat.gcd p q)) (Nat.gcd p q):=by
  rw[←Nat.div_div_eq_div_mul]
  congr 1
  exact Nat.div_eq_of_eq_mul_left hg (by rw[Nat.add_mul,Nat.mul_assoc,Nat.div_mul_cancel hgq,Nat.mul_assoc,Nat.div_mul_cancel hgp])
 have hd:p*q/(Nat.gcd p q*Nat.gcd (a*(q/Nat.gcd p q)+b*(p/Nat.gcd p q)) (Nat.gcd p q))=p/Nat.gcd p q*(q/Nat.gcd (a*(q/Nat.gcd p q)+b*(p/Nat.gcd p q)) (Nat.gcd p q)):=
  Nat.mul_div_mul_comm hgp hhd
 rw[hn,hd]
 generalize hG:Nat.gcd p q=g at*
 generalize hH:Nat.gcd (a*(q/g)+b*(p/g)) g=h at*
 rw[←e1]at c7
 rw[←e2]at c11 c18
 rw[←e3]at c18
 refine ratio_Add_0 (by simp only[InR];omega) (by simp only[InR];omega) c2 (by simp only[InR];omega) (by omega) (by omega) ?_ c7 (by simp only[InR];omega) (by omega) ?_ c11 c12 c13 c14 c15 (by omega) ?_ c18 c19
 ·rw[e1];generalize q/g=x at*;simp only[InR];omega
 ·rw[e2];generalize p/g=x at*;simp only[InR];omega
 ·rw[e3];generalize q/h=x at*;simp only[InR];omega
end Go.Proofs.YtelidogcomffkaaGreatDoor
