import Derived.Test.YtgojmodiaffcbaaGreatDoorQuo
import Derived.Test.YtgojmodiaffcbaaGreatDoorProg
import Derived.KernelRfl
import Derived.Laws.Externs
set_option linter.unusedSectionVars false
set_option linter.unusedSimpArgs false
set_option linter.unusedVariables false
set_option maxRecDepth 100000
namespace Go.Proofs.YtgojmodiaffcbaaGreatDoor
open Go Go.Sx
variable [Env]
theorem Quot_self {b:Nat} (hb:b≠0) (hlb:ln b≤500):SCall Tryz.prog GL 70 [.agg [.sl 0 (ln b)],.agg [.sl 0 (ln b)]] [BR false b] (.tup [.agg [.sl 1 (ln (b/b))],.agg [.sl 2 (ln (b%b))]]) [BR true (b/b),BR true (b%b)]:=
 SCall.dup (Quot hb hlb hlb) rfl (fun i=>rfl) ⟨fun i=>rfl,fun i=>rfl,trivial⟩ rfl rfl
noncomputable def demurrageref02_Gcd_h0 (n1:Nat) (g2:Nat→Int) (n3:Nat) (g4:Nat→Int) (n5_:Nat) (g1051:Nat→Int):SC:=
 ⟨[⟨69,slo 20 [(2,.ptr 2 0),(3,.ptr 3 0),(4,.ptr 4 0)],[.code (bodyAt Tryz.f69 [1,0,0,0]),.inLoop (bodyAt Tryz.f69 [1,0,0,0]),.inBlock 0,.code (bodyAt Tryz.f69 [1,1])],{}⟩],[ri n1 g2,ri n3 g4,some (.box true [.sl 0 n1]),some (.box true [.sl 1 n3]),some (.box true [.sl 5 n5_]),ro n5_ g1051]⟩
theorem demurrageref02_Gcd_0 {X:Cx} {res:SV} {new:List (Option Vw)} {n1:Nat} {g2:Nat→Int} {n3:Nat} {g4:Nat→Int} (hX:Fi X 69 [ri n1 g2,ri n3 g4] res new) (k:Ok X (demurrageref02_Gcd_h0 n1 g2 n3 g4 0 (fun _=>default))):
  Ok X (entry Tryz.prog 69 [.agg [.sl 0 n1],.agg [.sl 1 n3]] [ri n1 g2,ri n3 g4]):=
 Ok.cutM 9 [] [msk 20 [2,3,4]] [.old 0,.old 1,.old 2,.old 3,.old 4,.nil 1] 2 hX.P hX.gl hX.n0 (by kernel_rfl) (by kernel_rfl) (by exact⟨fun _=>rfl,fun _=>rfl,rfl,rfl,rfl,fun _=>rfl,trivial⟩) na k
noncomputable def demurrageref02_Gcd_h1 (n1:Nat) (g2:Nat→Int) (n3:Nat) (g4:Nat→Int) (n5_:Nat) (g1051:Nat→Int) (n7_:Nat) (g1071:Nat→Int):SC:=
 ⟨[⟨69,slo 20 [(2,.ptr 2 0),(3,.ptr 3 0),(4,.ptr 4 0)],[.code (bodyAt Tryz.f69 [1,0,0,0]),.inLoop (bodyAt Tryz.f69 [1,0,0,0]),.inBlock 0,.code (bodyAt Tryz.f69 [1,1])],{}⟩],[ri n1 g2,ri n3 g4,some (.box true [.sl 1 n3]),some (.box true [.sl 7 n7_]),some (.box true [.sl 5 n5_]),ro n5_ g1051,none,ro n7_ g1071]⟩
theorem demurrageref02_Gcd_1 {X:Cx} {res:SV} {new:List (Option Vw)} {n1:Nat} {g2:Nat→Int} {n3:Nat} {g4:Nat→Int} {n5_:Nat} {g1051:Nat→Int} {n5001:Nat} {g5002:Nat→Int} {n5003:Nat} {g5004:Nat→Int} (hX:Fi X 69 [ri n1 g2,ri n3 g4] res new) (h0:((n3:Nat):Int)>0) (h1:S 70 [.agg [.sl 0 n1],.agg [.sl 1 n3]] [ri n1 g2,ri n3 g4] (.tup [.agg [.sl 2 n5001],.agg [.sl 3 n5003]]) [ro n5001 g5002,ro n5003 g5004]) (k:Ok X (demurrageref02_Gcd_h1 n1 g2 n3 g4 n5_ g1051 n5003 g5004)):
  Ok X (demurrageref02_Gcd_h0 n1 g2 n3 g4 n5_ g1051):=
 Ok.cutM 35 [tb,.call [0,1] (.tup [.agg [.sl 2 n5001],.agg [.sl 3 n5003]]) [ro n5001 g5002,ro n5003 g5004]] [msk 20 [2,3,4]] [.old 0,.old 1,.old 2,.old 3,.old 4,.old 5,.old 1006,.old 7] 2 hX.P hX.gl hX.n0 (by kernel_rfl) (by kernel_rfl) (by exact⟨fun _=>rfl,fun _=>rfl,rfl,rfl,rfl,fun _=>rfl,fun _=>rfl,trivial⟩) (ca (dt h0) (ca h1 na)) k
noncomputable def demurrageref02_Gcd_h2 (n1:Nat) (g2:Nat→Int) (n3:Nat) (g4:Nat→Int) (n5_:Nat) (g1051:Nat→Int) (n7_:Nat) (g1071:Nat→Int) (n9_:Nat) (g1091:Nat→Int):SC:=
 ⟨[⟨69,slo 20 [(2,.ptr 2 0),(3,.ptr 3 0),(4,.ptr 4 0)],[.code (bodyAt Tryz.f69 [1,0,0,0]),.inLoop (bodyAt Tryz.f69 [1,0,0,0]),.inBlock 0,.code (bodyAt Tryz.f69 [1,1])],{}⟩],[ri n1 g2,ri n3 g4,some (.box true [.sl 7 n7_]),some (.box true [.sl 9 n9_]),some (.box true [.sl 5 n5_]),ro n5_ g1051,none,ro n7_ g1071,none,ro n9_ g1091]⟩
theorem demurrageref02_Gcd_3 {X:Cx} {res:SV} {new:List (Option Vw)} {n1:Nat} {g2:Nat→Int} {n3:Nat} {g4:Nat→Int} {n5_:Nat} {g1051:Nat→Int} {n7_:Nat} {g1071:Nat→Int} {n5001:Nat} {g5002:Nat→Int} {n5003:Nat} {g5004:Nat→Int} (hX:Fi X 69 [ri n1 g2,ri n3 g4] res new) (h0:((n7_:Nat):Int)>0) (h1:S 70 [.agg [.sl 0 n3],.agg [.sl 1 n7_]] [ri n3 g4,ri n7_ g1071] (.tup [.agg [.sl 2 n5001],.agg [.sl 3 n5003]]) [ro n5001 g5002,ro n5003 g5004]) (k:Ok X (demurrageref02_Gcd_h2 n1 g2 n3 g4 n5_ g1051 n7_ g1071 n5003 g5004)):
  Ok X (demurrageref02_Gcd_h1 n1 g2 n3 g4 n5_ g1051 n7_ g1071):=
 Ok.cutM 35 [tb,.call [1,7] (.tup [.agg [.sl 2 n5001],.agg [.sl 3 n5003]]) [ro n5001 g5002,ro n5003 g5004]] [msk 20 [2,3,4]] [.old 0,.old 1,.old 2,.old 3,.old 4,.old 5,.old 1006,.old 7,.old 1008,.old 9] 2 hX.P hX.gl hX.n0 (by kernel_rfl) (by kernel_rfl) (by exact⟨fun _=>rfl,fun _=>rfl,rfl,rfl,rfl,fun _=>rfl,fun _=>rfl,fun _=>rfl,trivial⟩) (ca (dt h0) (ca h1 na)) k
theorem demurrageref02_Gcd_4 {X:Cx} {n1:Nat} {g2:Nat→Int} {n3:Nat} {g4:Nat→Int} {n5_:Nat} {g1051:Nat→Int} {n7_:Nat} {g1071:Nat→Int} (hX:Fi X 69 [ri n1 g2,ri n3 g4] (.agg [.sl 1 n3]) []) (h0: ¬((n7_:Nat):Int)>0):
  Ok X (demurrageref02_Gcd_h1 n1 g2 n3 g4 n5_ g1051 n7_ g1071):=
 Ok.fin 15 [fb] [] 8 hX (by kernel_rfl) rfl (ca (df h0) na)
theorem demurrageref02_Gcd_5 {X:Cx} {res:SV} {new:List (Option Vw)} {n1:Nat} {g2:Nat→Int} {n3:Nat} {g4:Nat→Int} {n5_:Nat} {g1051:Nat→Int} {n7_:Nat} {g1071:Nat→Int} {n9_:Nat} {g1091:Nat→Int} {n5001:Nat} {g5002:Nat→Int} {n5003:Nat} {g5004:Nat→Int} (hX:Fi X 69 [ri n1 g2,ri n3 g4] res new) (h0:((n9_:Nat):Int)>0) (h1:S 70 [.agg [.sl 0 n7_],.agg [.sl 1 n9_]] [ri n7_ g1071,ri n9_ g1091] (.tup [.agg [.sl 2 n5001],.agg [.sl 3 n5003]]) [ro n5001 g5002,ro n5003 g5004]) (k:Ok X (demurrageref02_Gcd_h2 n1 g2 n3 g4 n5_ g1051 n9_ g1091 n5003 g5004)):
  Ok X (demurrageref02_Gcd_h2 n1 g2 n3 g4 n5_ g1051 n7_ g1071 n9_ g1091):=
 Ok.cutM 35 [tb,.call [7,9] (.tup [.agg [.sl 2 n5001],.agg [.sl 3 n5003]]) [ro n5001 g5002,ro n5003 g5004]] [msk 20 [2,3,4]] [.old 0,.old 1,.old 2,.old 3,.old 4,.old 5,.old 1006,.old 9,.old 1007,.old 11] 2 hX.P hX.gl hX.n0 (by kernel_rfl) (by kernel_rfl) (by exact⟨fun _=>rfl,fun _=>rfl,rfl,rfl,rfl,fun _=>rfl,fun _=>rfl,fun _=>rfl,trivial⟩) (ca (dt h0) (ca h1 na)) k
theorem demurrageref02_Gcd_6 {X:Cx} {n1:Nat} {g2:Nat→Int} {n3:Nat} {g4:Nat→Int} {n5_:Nat} {g1051:Nat→Int} {n7_:Nat} {g1071:Nat→Int} {n9_:Nat} {g1091:Nat→Int} (hX:Fi X 69 [ri n1 g2,ri n3 g4] (.agg [.sl 2 n7_]) [ro n7_ g1071]) (h0: ¬((n9_:Nat):Int)>0):
  Ok X (demurrageref02_Gcd_h2 n1 g2 n3 g4 n5_ g1051 n7_ g1071 n9_ g1091):=
 Ok.fin 15 [fb] [7] 10 hX (by kernel_rfl) rfl (ca (df h0) na)
theorem Gcd_loop2 {X:Cx} {n1 n3 g:Nat} {n5:Nat} {g5:Nat→Int} (hX:IsFin X Tryz.prog GL 69 [BR false n1,BR false n3] (.agg [.sl 2 (ln g)]) [BR true g]):
  ∀ (m a b:Nat),b≤m→ln a≤500→ln b≤500→Nat.gcd a b=g→Ok X (demurrageref02_Gcd_h2 (ln n1) (dg n1) (ln n3) (dg n3) n5 g5 (ln a) (dg a) (ln b) (dg b)):=by
 intro m
 induction m with
 |zero=>
  intro a b hm ha hb hg
  have:b=0:=by omega
  subst this
  rw[Nat.gcd_zero_right]at hg
  subst hg
  exact demurrageref02_Gcd_6 hX (by rw[ln_zero];omega)
 |succ m ih=>
  intro a b hm ha hb hg
  by_cases h:b=0
  ·subst h
   rw[Nat.gcd_zero_right]at hg
   subst hg
   exact demurrageref02_Gcd_6 hX (by rw[ln_zero];omega)
  ·have h1:=Nat.mod_lt a (Nat.pos_of_ne_zero h)
   refine demurrageref02_Gcd_5 hX (by rw[ln_pos h];omega) (Quot h ha hb) ?_
   refine ih b (a%b) (by omega) hb (Nat.le_trans (ln_mono (Nat.le_of_lt h1)) hb) ?_
   rw[←hg,Nat.gcd_comm a b,Nat.gcd_rec b a,Nat.gcd_comm]
theorem Gcd_alias {a b:Nat} (hb0:b≠0) (ha:ln a≤500) (hb:ln b≤500) (h:a%b=0):SCall Tryz.prog GL 69 [.agg [.sl 0 (ln a)],.agg [.sl 1 (ln b)]] [BR false a,BR false b] (.agg [.sl 1 (ln b)]) []:=by
 refine SCall.of (by kernel_rfl) rfl ⟨fun i=>rfl,fun i=>rfl,trivial⟩ rfl (fun X hX=> ?_)
 refine demurrageref02_Gcd_0 hX (demurrageref02_Gcd_1 hX (by rw[ln_pos hb0];omega) (Quot hb0 ha hb) ?_)
 rw[h,ln_zero]
 exact demurrageref02_Gcd_4 hX (by omega)
theorem Gcd_own {a b:Nat} (hb0:b≠0) (ha:ln a≤500) (hb:ln b≤500) (h:a%b≠0):SCall Tryz.prog GL 69 [.agg [.sl 0 (ln a)],.agg [.sl 1 (ln b)]] [BR false a,BR false b] (.agg [.sl 2 (ln (Nat.gcd a b))]) [BR true (Nat.gcd a b)]:=by
 refine SCall.of (by kernel_rfl) rfl ⟨fun i=>rfl,fun i=>rfl,trivial⟩ rfl (fun X hX=> ?_)
 have h1:=Nat.mod_lt a (Nat.pos_of_ne_zero hb0)
 have h2:ln (a%b)≤500:=Nat.le_trans (ln_mono (Nat.le_of_lt h1)) hb
 refine demurrageref02_Gcd_0 hX (demurrageref02_Gcd_1 hX (by rw[ln_pos hb0];omega) (Quot hb0 ha hb) ?_)
 refine demurrageref02_Gcd_3 hX (by rw[ln_pos h];omega) (Quot h hb h2) ?_
 have h3:=Nat.mod_lt b (Nat.pos_of_ne_zero h)
 refine Gcd_loop2 hX (b%(a%b)) (a%b) (b%(a%b)) (Nat.le_refl _) h2 (Nat.le_trans (ln_mono (Nat.le_of_lt h3)) h2) ?_
 rw[Nat.gcd_comm a b,Nat.gcd_rec b a,Nat.gcd_rec (a%b) b,Nat.gcd_comm]
noncomputable def demurrageref02_value_h0 (n1:Nat) (g2:Nat→Int) (x1:Int) (x2:Int):SC:=
 ⟨[⟨71,slo 22 [(1,.ptr 1 0),(3,I x1),(4,I x2)],[.code (bodyAt Tryz.f71 [1,1,0,1,0,0]),.inLoop (bodyAt Tryz.f71 [1,1,0,1,0,0]),.inBlock 0,.code (bodyAt Tryz.f71 [1,1,1])],{}⟩],[ri n1 g2,some (.box true [.sl 0 n1])]⟩
theorem demurrageref02_value_0 {X:Cx} {res:SV} {new:List (Option Vw)} {n1:Nat} {g2:Nat→Int} (hX:Fi X 71 [ri n1 g2] res new) (h0:InR .i64 (((n1:Nat):Int)-1)) (k:Ok X (demurrageref02_value_h0 n1 g2 0 (((n1:Nat):Int)-1))):
  Ok X (entry Tryz.prog 71 [.agg [.sl 0 n1]] [ri n1 g2]):=
 Ok.cutM 20 [] [msk 22 [1,3,4]] [.old 0,.old 1] 1 hX.P hX.gl hX.n0 (by kernel_rfl) (by kernel_rfl) (by exact⟨fun _=>rfl,rfl,trivial⟩) (ca h0 na) k
theorem demurrageref02_value_1 {X:Cx} {res:SV} {new:List (Option Vw)} {n1:Nat} {g2:Nat→Int} {x1 x2:Int} (hX:Fi X 71 [ri n1 g2] res new) (h0:x2≥0) (h1:InR .i64 (10000*x1)) (h2:(0:Int)≤x2∧x2<((n1:Nat):Int)) (h3:InR .i64 ((10000*x1)+(g2 x2.toNat))) (h4:InR .i64 (x2-1)) (k:Ok X (demurrageref02_value_h0 n1 g2 ((10000*x1)+(g2 x2.toNat)) (x2-1))):
  Ok X (demurrageref02_value_h0 n1 g2 x1 x2):=
 Ok.cutM 28 [tb] [msk 22 [1,3,4]] [.old 0,.old 1] 1 hX.P hX.gl hX.n0 (by kernel_rfl) (by kernel_rfl) (by exact⟨fun _=>rfl,rfl,trivial⟩) (ca (dt h0) (ca h1 (ca h2 (ca (re n1) (ca h2 (ca h3 (ca h4 na))))))) k
theorem demurrageref02_value_2 {X:Cx} {n1:Nat} {g2:Nat→Int} {x1 x2:Int} (hX:Fi X 71 [ri n1 g2] (I x1) []) (h0: ¬x2≥0):
  Ok X (demurrageref02_value_h0 n1 g2 x1 x2):=
 Ok.fin 13 [fb] [] 2 hX (by kernel_rfl) rfl (ca (df h0) na)
theorem value_loop {X:Cx} {a:Nat} (ha:a<9223372036854775808) (hX:IsFin X Tryz.prog GL 71 [BR false a] (I (a:Int)) []):
  ∀ (i:Nat),i≤ln a→Ok X (demurrageref02_value_h0 (ln a) (dg a) ((a/10000^i:Nat):Int) ((i:Int)-1))
 |0,hi=>by
  rw[Nat.pow_zero,Nat.div_one]
  exact demurrageref02_value_2 hX (by omega)
 |j+1,hi=>by
  have hl:ln a≤5:=ln_le_iff.2 (by omega)
  have e:(((j+1:Nat):Int)-1)=(j:Int):=by omega
  have h1:10000*(((a/10000^(j+1):Nat):Int))+dg a j=((a/10000^j:Nat):Int):=by
   unfold dg dgN;rw[←div_step];omega
  have h2:a/10000^j≤a:=Nat.div_le_self _ _
  have h3:=dg_nn a j
  rw[e]
  generalize a/10000^(j+1)=p at*
  have hq:a/10000^j<9223372036854775808:=by omega
  have ih:=value_loop ha hX j (by omega)
  generalize a/10000^j=q at*
  refine demurrageref02_value_1 hX (by omega) (by simp only[InR];omega) (by omega) ?_ (by simp only[InR];omega) ?_
  ·rw[show(j:Int).toNat=j from rfl,h1];simp only[InR];omega
  ·rw[show(j:Int).toNat=j from rfl,h1]
   exact ih
theorem value {a:Nat} (ha:a<9223372036854775808):SCall Tryz.prog GL 71 [.agg [.sl 0 (ln a)]] [BR false a] (I (a:Int)) []:=by
 refine SCall.of (by kernel_rfl) rfl ⟨fun i=>rfl,trivial⟩ rfl (fun X hX=> ?_)
 have hl:ln a≤5:=ln_le_iff.2 (by omega)
 refine demurrageref02_value_0 hX (by simp only[InR];omega) ?_
 have:=value_loop ha hX (ln a) (Nat.le_refl _)
 rwa [Nat.div_eq_of_lt (lt_ln a)]at this
theorem demurrageref02_Made_0 {n1:Nat} {g2:Nat→Int} {n3:Nat} {g4:Nat→Int} {n5:Nat} {g6:Nat→Int} {n7:Nat} {g8:Nat→Int} {n9:Nat} {g10:Nat→Int} {n11:Nat} {g12:Nat→Int} {n13:Nat} {g14:Nat→Int} {n15:Nat} {g16:Nat→Int} {r17:Int} (h0:S 69 [.agg [.sl 0 n1],.agg [.sl 1 n3]] [ri n1 g2,ri n3 g4] (.agg [.sl 2 n5]) [ro n5 g6]) (h1:S 70 [.agg [.sl 0 n1],.agg [.sl 1 n5]] [ri n1 g2,ri n5 g6] (.tup [.agg [.sl 2 n7],.agg [.sl 3 n9]]) [ro n7 g8,ro n9 g10]) (h2:S 70 [.agg [.sl 0 n3],.agg [.sl 1 n5]] [ri n3 g4,ri n5 g6] (.tup [.agg [.sl 2 n11],.agg [.sl 3 n13]]) [ro n11 g12,ro n13 g14]) (h3:S 65 [N .u64 4611686018427387904] [] (.agg [.sl 0 n15]) [ro n15 g16]) (h4:S 38 [.agg [.sl 0 n7],.agg [.sl 1 n15]] [ri n7 g8,ri n15 g16] (I r17) []) (h5:r17>0):
  S 46 [.agg [.sl 0 n1],.agg [.sl 1 n3]] [ri n1 g2,ri n3 g4] (.tup [.agg [I 0,I 0],I 6]) []:=
 SCall.path 68 [.call [0,1] (.agg [.sl 2 n5]) [ro n5 g6],.call [0,5] (.tup [.agg [.sl 2 n7],.agg [.sl 3 n9]]) [ro n7 g8,ro n9 g10],.call [1,5] (.tup [.agg [.sl 2 n11],.agg [.sl 3 n13]]) [ro n11 g12,ro n13 g14],.call [] (.agg [.sl 0 n15]) [ro n15 g16],.call [7,15] (I r17) [],tb,tb,tb,tb,tb,tb] [] 17 (by kernel_rfl) rfl (by exact⟨fun _=>rfl,fun _=>rfl,trivial⟩) (ca h0 (ca h1 (ca h2 (ca h3 (ca h4 (ca (dt h5) (ca (dt h5) (ca (dt h5) (ca (dt h5) (ca (dt h5) (ca rt na)))))))))))
theorem demurrageref02_Made_1 {n1:Nat} {g2:Nat→Int} {n3:Nat} {g4:Nat→Int} {n5:Nat} {g6:Nat→Int} {n7:Nat} {g8:Nat→Int} {n9:Nat} {g10:Nat→Int} {n11:Nat} {g12:Nat→Int} {n13:Nat} {g14:Nat→Int} {n15:Nat} {g16:Nat→Int} {r17 r18:Int} (h0:S 69 [.agg [.sl 0 n1],.agg [.sl 1 n3]] [ri n1 g2,ri n3 g4] (.agg [.sl 2 n5]) [ro n5 g6]) (h1:S 70 [.agg [.sl 0 n1],.agg [.sl 1 n5]] [ri n1 g2,ri n5 g6] (.tup [.agg [.sl 2 n7],.agg [.sl 3 n9]]) [ro n7 g8,ro n9 g10]) (h2:S 70 [.agg [.sl 0 n3],.agg [.sl 1 n5]] [ri n3 g4,ri n5 g6] (.tup [.agg [.sl 2 n11],.agg [.sl 3 n13]]) [ro n11 g12,ro n13 g14]) (h3:S 65 [N .u64 4611686018427387904] [] (.agg [.sl 0 n15]) [ro n15 g16]) (h4:S 38 [.agg [.sl 0 n7],.agg [.sl 1 n15]] [ri n7 g8,ri n15 g16] (I r17) []) (h5: ¬r17>0) (h6:S 38 [.agg [.sl 0 n11],.agg [.sl 1 n15]] [ri n11 g12,ri n15 g16] (I r18) []) (h7:r18>0):
  S 46 [.agg [.sl 0 n1],.agg [.sl 1 n3]] [ri n1 g2,ri n3 g4] (.tup [.agg [I 0,I 0],I 6]) []:=
 SCall.path 68 [.call [0,1] (.agg [.sl 2 n5]) [ro n5 g6],.call [0,5] (.tup [.agg [.sl 2 n7],.agg [.sl 3 n9]]) [ro n7 g8,ro n9 g10],.call [1,5] (.tup [.agg [.sl 2 n11],.agg [.sl 3 n13]]) [ro n11 g12,ro n13 g14],.call [] (.agg [.sl 0 n15]) [ro n15 g16],.call [7,15] (I r17) [],fb,fb,fb,.call [11,15] (I r18) [],fb,fb,tb] [] 17 (by kernel_rfl) rfl (by exact⟨fun _=>rfl,fun _=>rfl,trivial⟩) (ca h0 (ca h1 (ca h2 (ca h3 (ca h4 (ca (df h5) (ca (df h5) (ca (df h5) (ca h6 (ca (df h5) (ca (df h5) (ca (dt h7) na))))))))))))
theorem demurrageref02_Made_2 {n1:Nat} {g2:Nat→Int} {n3:Nat} {g4:Nat→Int} {n5:Nat} {g6:Nat→Int} {n7:Nat} {g8:Nat→Int} {n9:Nat} {g10:Nat→Int} {n11:Nat} {g12:Nat→Int} {n13:Nat} {g14:Nat→Int} {n15:Nat} {g16:Nat→Int} {r17 r18 r19 r20:Int} (h0:S 69 [.agg [.sl 0 n1],.agg [.sl 1 n3]] [ri n1 g2,ri n3 g4] (.agg [.sl 2 n5]) [ro n5 g6]) (h1:S 70 [.agg [.sl 0 n1],.agg [.sl 1 n5]] [ri n1 g2,ri n5 g6] (.tup [.agg [.sl 2 n7],.agg [.sl 3 n9]]) [ro n7 g8,ro n9 g10]) (h2:S 70 [.agg [.sl 0 n3],.agg [.sl 1 n5]] [ri n3 g4,ri n5 g6] (.tup [.agg [.sl 2 n11],.agg [.sl 3 n13]]) [ro n11 g12,ro n13 g14]) (h3:S 65 [N .u64 4611686018427387904] [] (.agg [.sl 0 n15]) [ro n15 g16]) (h4:S 38 [.agg [.sl 0 n7],.agg [.sl 1 n15]] [ri n7 g8,ri n15 g16] (I r17) []) (h5: ¬r17>0) (h6:S 38 [.agg [.sl 0 n11],.agg [.sl 1 n15]] [ri n11 g12,ri n15 g16] (I r18) []) (h7: ¬r18>0) (h8:S 71 [.agg [.sl 0 n7]] [ri n7 g8] (I r19) []) (h9:S 71 [.agg [.sl 0 n11]] [ri n11 g12] (I r20) []):
  S 46 [.agg [.sl 0 n1],.agg [.sl 1 n3]] [ri n1 g2,ri n3 g4] (.tup [.agg [I r19,I r20],I 0]) []:=
 SCall.path 70 [.call [0,1] (.agg [.sl 2 n5]) [ro n5 g6],.call [0,5] (.tup [.agg [.sl 2 n7],.agg [.sl 3 n9]]) [ro n7 g8,ro n9 g10],.call [1,5] (.tup [.agg [.sl 2 n11],.agg [.sl 3 n13]]) [ro n11 g12,ro n13 g14],.call [] (.agg [.sl 0 n15]) [ro n15 g16],.call [7,15] (I r17) [],fb,fb,fb,.call [11,15] (I r18) [],fb,fb,fb,.draw 3 [] 0,.call [7] (I r19) [],.call [11] (I r20) []] [] 17 (by kernel_rfl) rfl (by exact⟨fun _=>rfl,fun _=>rfl,trivial⟩) (ca h0 (ca h1 (ca h2 (ca h3 (ca h4 (ca (df h5) (ca (df h5) (ca (df h5) (ca h6 (ca (df h5) (ca (df h5) (ca (df h7) (ca h8 (ca h9 na))))))))))))))
theorem demurrageref02_Made_3 {n1:Nat} {g2:Nat→Int} {n3:Nat} {g4:Nat→Int} {n5:Nat} {g6:Nat→Int} {n7:Nat} {g8:Nat→Int} {n9:Nat} {g10:Nat→Int} {n11:Nat} {g12:Nat→Int} {n13:Nat} {g14:Nat→Int} {r15:Int} (h0:S 69 [.agg [.sl 0 n1],.agg [.sl 1 n3]] [ri n1 g2,ri n3 g4] (.agg [.sl 1 n3]) []) (h1:S 70 [.agg [.sl 0 n1],.agg [.sl 1 n3]] [ri n1 g2,ri n3 g4] (.tup [.agg [.sl 2 n5],.agg [.sl 3 n7]]) [ro n5 g6,ro n7 g8]) (h2:S 70 [.agg [.sl 0 n3],.agg [.sl 0 n3]] [ri n3 g4] (.tup [.agg [.sl 1 n9],.agg [.sl 2 n11]]) [ro n9 g10,ro n11 g12]) (h3:S 65 [N .u64 4611686018427387904] [] (.agg [.sl 0 n13]) [ro n13 g14]) (h4:S 38 [.agg [.sl 0 n5],.agg [.sl 1 n13]] [ri n5 g6,ri n13 g14] (I r15) []) (h5:r15>0):
  S 46 [.agg [.sl 0 n1],.agg [.sl 1 n3]] [ri n1 g2,ri n3 g4] (.tup [.agg [I 0,I 0],I 6]) []:=
 SCall.path 68 [.call [0,1] (.agg [.sl 1 n3]) [],.call [0,1] (.tup [.agg [.sl 2 n5],.agg [.sl 3 n7]]) [ro n5 g6,ro n7 g8],.call [1] (.tup [.agg [.sl 1 n9],.agg [.sl 2 n11]]) [ro n9 g10,ro n11 g12],.call [] (.agg [.sl 0 n13]) [ro n13 g14],.call [6,14] (I r15) [],tb,tb,tb,tb,tb,tb] [] 16 (by kernel_rfl) rfl (by exact⟨fun _=>rfl,fun _=>rfl,trivial⟩) (ca h0 (ca h1 (ca h2 (ca h3 (ca h4 (ca (dt h5) (ca (dt h5) (ca (dt h5) (ca (dt h5) (ca (dt h5) (ca rt na)))))))))))
theorem demurrageref02_Made_4 {n1:Nat} {g2:Nat→Int} {n3:Nat} {g4:Nat→Int} {n5:Nat} {g6:Nat→Int} {n7:Nat} {g8:Nat→Int} {n9:Nat} {g10:Nat→Int} {n11:Nat} {g12:Nat→Int} {n13:Nat} {g14:Nat→Int} {r15 r16:Int} (h0:S 69 [.agg [.sl 0 n1],.agg [.sl 1 n3]] [ri n1 g2,ri n3 g4] (.agg [.sl 1 n3]) []) (h1:S 70 [.agg [.sl 0 n1],.agg [.sl 1 n3]] [ri n1 g2,ri n3 g4] (.tup [.agg [.sl 2 n5],.agg [.sl 3 n7]]) [ro n5 g6,ro n7 g8]) (h2:S 70 [.agg [.sl 0 n3],.agg [.sl 0 n3]] [ri n3 g4] (.tup [.agg [.sl 1 n9],.agg [.sl 2 n11]]) [ro n9 g10,ro n11 g12]) (h3:S 65 [N .u64 4611686018427387904] [] (.agg [.sl 0 n13]) [ro n13 g14]) (h4:S 38 [.agg [.sl 0 n5],.agg [.sl 1 n13]] [ri n5 g6,ri n13 g14] (I r15) []) (h5: ¬r15>0) (h6:S 38 [.agg [.sl 0 n9],.agg [.sl 1 n13]] [ri n9 g10,ri n13 g14] (I r16) []) (h7:r16>0):
  S 46 [.agg [.sl 0 n1],.agg [.sl 1 n3]] [ri n1 g2,ri n3 g4] (.tup [.agg [I 0,I 0],I 6]) []:=
 SCall.path 68 [.call [0,1] (.agg [.sl 1 n3]) [],.call [0,1] (.tup [.agg [.sl 2 n5],.agg [.sl 3 n7]]) [ro n5 g6,ro n7 g8],.call [1] (.tup [.agg [.sl 1 n9],.agg [.sl 2 n11]]) [ro n9 g10,ro n11 g12],.call [] (.agg [.sl 0 n13]) [ro n13 g14],.call [6,14] (I r15) [],fb,fb,fb,.call [10,14] (I r16) [],fb,fb,tb] [] 16 (by kernel_rfl) rfl (by exact⟨fun _=>rfl,fun _=>rfl,trivial⟩) (ca h0 (ca h1 (ca h2 (ca h3 (ca h4 (ca (df h5) (ca (df h5) (ca (df h5) (ca h6 (ca (df h5) (ca (df h5) (ca (dt h7) na))))))))))))
theorem demurrageref02_Made_5 {n1:Nat} {g2:Nat→Int} {n3:Nat} {g4:Nat→Int} {n5:Nat} {g6:Nat→Int} {n7:Nat} {g8:Nat→Int} {n9:Nat} {g10:Nat→Int} {n11:Nat} {g12:Nat→Int} {n13:Nat} {g14:Nat→Int} {r15 r16 r17 r18:Int} (h0:S 69 [.agg [.sl 0 n1],.agg [.sl 1 n3]] [ri n1 g2,ri n3 g4] (.agg [.sl 1 n3]) []) (h1:S 70 [.agg [.sl 0 n1],.agg [.sl 1 n3]] [ri n1 g2,ri n3 g4] (.tup [.agg [.sl 2 n5],.agg [.sl 3 n7]]) [ro n5 g6,ro n7 g8]) (h2:S 70 [.agg [.sl 0 n3],.agg [.sl 0 n3]] [ri n3 g4] (.tup [.agg [.sl 1 n9],.agg [.sl 2 n11]]) [ro n9 g10,ro n11 g12]) (h3:S 65 [N .u64 4611686018427387904] [] (.agg [.sl 0 n13]) [ro n13 g14]) (h4:S 38 [.agg [.sl 0 n5],.agg [.sl 1 n13]] [ri n5 g6,ri n13 g14] (I r15) []) (h5: ¬r15>0) (h6:S 38 [.agg [.sl 0 n9],.agg [.sl 1 n13]] [ri n9 g10,ri n13 g14] (I r16) []) (h7: ¬r16>0) (h8:S 71 [.agg [.sl 0 n5]] [ri n5 g6] (I r17) []) (h9:S 71 [.agg [.sl 0 n9]] [ri n9 g10] (I r18) []):
  S 46 [.agg [.sl 0 n1],.agg [.sl 1 n3]] [ri n1 g2,ri n3 g4] (.tup [.agg [I r17,I r18],I 0]) []:=
 SCall.path 70 [.call [0,1] (.agg [.sl 1 n3]) [],.call [0,1] (.tup [.agg [.sl 2 n5],.agg [.sl 3 n7]]) [ro n5 g6,ro n7 g8],.call [1] (.tup [.agg [.sl 1 n9],.agg [.sl 2 n11]]) [ro n9 g10,ro n11 g12],.call [] (.agg [.sl 0 n13]) [ro n13 g14],.call [6,14] (I r15) [],fb,fb,fb,.call [10,14] (I r16) [],fb,fb,fb,.draw 3 [] 0,.call [6] (I r17) [],.call [10] (I r18) []] [] 16 (by kernel_rfl) rfl (by exact⟨fun _=>rfl,fun _=>rfl,trivial⟩) (ca h0 (ca h1 (ca h2 (ca h3 (ca h4 (ca (df h5) (ca (df h5) (ca (df h5) (ca h6 (ca (df h5) (ca (df h5) (ca (df h7) (ca h8 (ca h9 na))))))))))))))
theorem Made {n d:Nat} (hd:d≠0) (hln:ln n≤500) (hld:ln d≤500):SCall Tryz.prog GL 46 [.agg [.sl 0 (ln n)],.agg [.sl 1 (ln d)]] [BR false n,BR false d] (RT (mkR n d)) []:=by
 have hg0:Nat.gcd n d≠0:=fun h=>hd (Nat.eq_zero_of_gcd_eq_zero_right h)
 have hlg:ln (Nat.gcd n d)≤500:=Nat.le_trans (ln_mono (Nat.le_of_dvd (by omega) (Nat.gcd_dvd_right n d))) hld
 have hq1:ln (n/Nat.gcd n d)≤500:=Nat.le_trans (ln_mono (Nat.div_le_self _ _)) hln
 have hq2:ln (d/Nat.gcd n d)≤500:=Nat.le_trans (ln_mono (Nat.div_le_self _ _)) hld
 have hm:ln 4611686018427387904≤500:=Nat.le_trans (ln5 (by decide)) (by decide)
 have c4:= @FromU _ 4611686018427387904 (by decide)
 have c5:=Cmp (a:=n/Nat.gcd n d) (b:=4611686018427387904) (by omega) (by omega)
 have c6:=Cmp (a:=d/Nat.gcd n d) (b:=4611686018427387904) (by omega) (by omega)
 have hc: ∀ x:Nat,cmpI (x:Int) ((4611686018427387904:Nat):Int)>0↔x>4611686018427387904:=by
  intro x;unfold cmpI;split<;>(try split)<;>omega
 by_cases h:n%d=0
 ·have hg:Nat.gcd n d=d:=by rw[Nat.gcd_comm,Nat.gcd_rec,h,Nat.gcd_zero_left]
  unfold mkR
  rw[hg]at c5 c6⊢
  have c1:=Gcd_alias hd hln hld h
  have c2:= @Quot _ n d hd hln hld
  have c3:= @Quot_self _ d hd hld
  by_cases h1:n/d>4611686018427387904
  ·rw[if_pos (.inl h1)]
   exact demurrageref02_Made_3 c1 c2 c3 c4 c5 ((hc _).2 h1)
  ·by_cases h2:d/d>4611686018427387904
   ·rw[if_pos (.inr h2)]
    exact demurrageref02_Made_4 c1 c2 c3 c4 c5 (fun h=>h1 ((hc _).1 h)) c6 ((hc _).2 h2)
   ·rw[if_neg (by omega)]
    exact demurrageref02_Made_5 c1 c2 c3 c4 c5 (fun h=>h1 ((hc _).1 h)) c6 (fun h=>h2 ((hc _).1 h)) (value (by omega)) (value (by omega))
 ·unfold mkR
  have c1:=Gcd_own hd hln hld h
  have c2:= @Quot _ n (Nat.gcd n d) hg0 hln hlg
  have c3:= @Quot _ d (Nat.gcd n d) hg0 hld hlg
  by_cases h1:n/Nat.gcd n d>4611686018427387904
  ·rw[if_pos (.inl h1)]
   exact demurrageref02_Made_0 c1 c2 c3 c4 c5 ((hc _).2 h1)
  ·by_cases h2:d/Nat.gcd n d>4611686018427387904
   ·rw[if_pos (.inr h2)]
    exact demurrageref02_Made_1 c1 c2 c3 c4 c5 (fun h=>h1 ((hc _).1 h)) c6 ((hc _).2 h2)
   ·rw[if_neg (by omega)]
    exact demurrageref02_Made_2 c1 c2 c3 c4 c5 (fun h=>h1 ((hc _).1 h)) c6 (fun h=>h2 ((hc _).1 h)) (value (by omega)) (value (by omega))
theorem demurrageref02_New_3 {a1 a2:Int} {n3:Nat} {g4:Nat→Int} {n5:Nat} {g6:Nat→Int} {r7 r8 r9:Int} (h0: ¬a1<0) (h1: ¬a2<0) (h2:a2≠0) (h3:S 37 [I a1] [] (.agg [.sl 0 n3]) [ro n3 g4]) (h4:S 37 [I a2] [] (.agg [.sl 0 n5]) [ro n5 g6]) (h5:S 46 [.agg [.sl 0 n3],.agg [.sl 1 n5]] [ri n3 g4,ri n5 g6] (.tup [.agg [I r7,I r8],I r9]) []):
  S 77 [I a1,I a2] [] (.tup [.agg [I r7,I r8],I r9]) []:=
 SCall.path 37 [fb,fb,fb,fb,fb,.call [] (.agg [.sl 0 n3]) [ro n3 g4],.call [] (.agg [.sl 0 n5]) [ro n5 g6],.call [1,2] (.tup [.agg [I r7,I r8],I r9]) []] [] 3 (by kernel_rfl) rfl (by exact trivial) (ca (df h0) (ca (df h0) (ca (df h0) (ca (df h1) (ca (beq_eq_false_iff_ne.2 h2) (ca h3 (ca h4 (ca h5 na))))))))
theorem ref_New {n d:Nat} (hn:n<9223372036854775808) (hd:d<9223372036854775808) (hd0:d≠0):SCall Tryz.prog GL 77 [I (n:Int),I (d:Int)] [] (RT (mkR n d)) []:=
 demurrageref02_New_3 (by omega) (by omega) (by omega) (From hn) (From hd) (Made hd0 (Nat.le_trans (ln5 (by omega)) (by decide)) (Nat.le_trans (ln5 (by omega)) (by decide)))
theorem demurrageref02_big_0 {a1 a2:Int} {n3:Nat} {g4:Nat→Int} {n5:Nat} {g6:Nat→Int} (h0:S 37 [I a1] [] (.agg [.sl 0 n3]) [ro n3 g4]) (h1:S 37 [I a2] [] (.agg [.sl 0 n5]) [ro n5 g6]):
  S 45 [.agg [I a1,I a2]] [] (.tup [.agg [.sl 0 n3],.agg [.sl 1 n5]]) [ro n3 g4,ro n5 g6]:=
 SCall.path 12 [.draw 5 [] 0,.call [] (.agg [.sl 0 n3]) [ro n3 g4],.call [] (.agg [.sl 0 n5]) [ro n5 g6]] [3,4] 5 (by kernel_rfl) rfl (by exact trivial) (ca h0 (ca h1 na))
theorem big {n d:Nat} (hn:n<9223372036854775808) (hd:d<9223372036854775808):SCall Tryz.prog GL 45 [.agg [I (n:Int),I (d:Int)]] [] (.tup [.agg [.sl 0 (ln n)],.agg [.sl 1 (ln d)]]) [BR true n,BR true d]:=
 demurrageref02_big_0 (From hn) (From hd)
theorem demurrageref02_Add_0 {a1 a2 a3 a4:Int} {n5:Nat} {g6:Nat→Int} {n7:Nat} {g8:Nat→Int} {n9:Nat} {g10:Nat→Int} {n11:Nat} {g12:Nat→Int} {n13:Nat} {g14:Nat→Int} {n15:Nat} {g16:Nat→Int} {n17:Nat} {g18:Nat→Int} {n19:Nat} {g20:Nat→Int} {r21 r22 r23:Int} (h0:S 45 [.agg [I a1,I a2]] [] (.tup [.agg [.sl 0 n5],.agg [.sl 1 n7]]) [ro n5 g6,ro n7 g8]) (h1:S 45 [.agg [I a3,I a4]] [] (.tup [.agg [.sl 0 n9],.agg [.sl 1 n11]]) [ro n9 g10,ro n11 g12]) (h2:S 36 [.agg [.sl 0 n5],.agg [.sl 1 n11]] [ri n5 g6,ri n11 g12] (.agg [.sl 2 n13]) [ro n13 g14]) (h3:S 36 [.agg [.sl 0 n9],.agg [.sl 1 n7]] [ri n9 g10,ri n7 g8] (.agg [.sl 2 n15]) [ro n15 g16]) (h4:S 47 [.agg [.sl 0 n13],.agg [.sl 1 n15]] [ri n13 g14,ri n15 g16] (.agg [.sl 2 n17]) [ro n17 g18]) (h5:S 36 [.agg [.sl 0 n7],.agg [.sl 1 n11]] [ri n7 g8,ri n11 g12] (.agg [.sl 2 n19]) [ro n19 g20]) (h6:S 46 [.agg [.sl 0 n17],.agg [.sl 1 n19]] [ri n17 g18,ri n19 g20] (.tup [.agg [I r21,I r22],I r23]) []):
  S 18 [.agg [I a1,I a2],.agg [I a3,I a4]] [] (.tup [.agg [I r21,I r22],I r23]) []:=
 SCall.path 36 [.call [] (.tup [.agg [.sl 0 n5],.agg [.sl 1 n7]]) [ro n5 g6,ro n7 g8],.call [] (.tup [.agg [.sl 0 n9],.agg [.sl 1 n11]]) [ro n9 g10,ro n11 g12],.draw 13 [] 0,.call [3,8] (.agg [.sl 2 n13]) [ro n13 g14],.call [7,4] (.agg [.sl 2 n15]) [ro n15 g16],.call [11,12] (.agg [.sl 2 n17]) [ro n17 g18],.call [4,8] (.agg [.sl 2 n19]) [ro n19 g20],.call [13,14] (.tup [.agg [I r21,I r22],I r23]) []] [] 15 (by kernel_rfl) rfl (by exact trivial) (ca h0 (ca h1 (ca h2 (ca h3 (ca h4 (ca h5 (ca h6 na)))))))
theorem ref_Add {a b c d:Nat} (ha:a<9223372036854775808) (hb:b<9223372036854775808) (hc:c<9223372036854775808) (hd:d<9223372036854775808) (hb0:b≠0) (hd0:d≠0):
  SCall Tryz.prog GL 18 [.agg [I (a:Int),I (b:Int)],.agg [I (c:Int),I (d:Int)]] [] (RT (mkR (a*d+c*b) (b*d))) []:=by
 have l: ∀ x:Nat,x<9223372036854775808→ln x≤5:=fun x hx=>ln_le_iff.2 (by omega)
 have h1:=l a ha
 have h2:=l b hb
 have h3:=l c hc
 have h4:=l d hd
 have h5:=ln_mul a d
 have h6:=ln_mul c b
 have h7:=ln_mul b d
 have h8:=ln_add (a*d) (c*b)
 exact demurrageref02_Add_0 (big ha hb) (big hc hd) (Prod (by omega) (by omega)) (Prod (by omega) (by omega)) (Plus (by omega) (by omega)) (Prod (by omega) (by omega)) (Made (Nat.mul_ne_zero hb0 hd0) (by omega) (by omega))
end Go.Proofs.YtgojmodiaffcbaaGreatDoor
