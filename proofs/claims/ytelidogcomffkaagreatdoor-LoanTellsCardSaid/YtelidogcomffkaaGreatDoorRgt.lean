import Derived.Test.YtelidogcomffkaaGreatDoorQuo
import Derived.Test.YtelidogcomffkaaGreatDoorProg
import Derived.KernelRfl
import Derived.Laws.Externs
set_option linter.unusedSectionVars false
set_option linter.unusedSimpArgs false
set_option linter.unusedVariables false
set_option maxRecDepth 100000
namespace Go.Proofs.YtelidogcomffkaaGreatDoor
open Go Go.Sx
variable [Env]
theorem CJ {b:Nat} (hb:b≠0) (hlb:ln b≤500):ab Tryz.prog GL 198 [.agg [.sl 0 (ln b)], .agg [.sl 0 (ln b)]] [BR false b] (.af [.agg [.sl 1 (ln (b/b))], .agg [.sl 2 (ln (b%b))]]) [BR true (b/b),BR true (b%b)]:=
 ab.dup (Quot hb hlb hlb) rfl (fun i=>rfl) ⟨fun i=>rfl,fun i=>rfl,trivial⟩ rfl rfl
noncomputable def eX (n1:Nat) (g2:Nat→Int) (n3:Nat) (g4:Nat→Int) (n5_:Nat) (g1051:Nat→Int):SC:=
 ⟨[⟨197,bJ 20 [(2, .ptr 2 0),(3, .ptr 3 0),(4, .ptr 4 0)],[.code (aa Tryz.f197 [1,0,0,0]), .inLoop (aa Tryz.f197 [1,0,0,0]), .inBlock 0, .code (aa Tryz.f197 [1,1])],{}⟩],[ri n1 g2,ri n3 g4,some (.box true [.sl 0 n1]),some (.box true [.sl 1 n3]),some (.box true [.sl 5 n5_]),ro n5_ g1051]⟩
theorem fD {X:Cx} {res:SV} {new:List (Option Vw)} {n1:Nat} {g2:Nat→Int} {n3:Nat} {g4:Nat→Int} (hX:Fi X 197 [ri n1 g2,ri n3 g4] res new) (k:Ok X (eX n1 g2 n3 g4 0 (fun _=>default))):
  Ok X (entry Tryz.prog 197 [.agg [.sl 0 n1], .agg [.sl 1 n3]] [ri n1 g2,ri n3 g4]):=
 Ok.bg 9 [] [cN 20 [2,3,4]] [.ae 0, .ae 1, .ae 2, .ae 3, .ae 4, .nil 1] 2 hX.P hX.gl hX.n0 (by kernel_rfl) (by kernel_rfl) (by exact⟨fun _=>rfl,fun _=>rfl,rfl,rfl,rfl,fun _=>rfl,trivial⟩) na k
noncomputable def dq (n1:Nat) (g2:Nat→Int) (n3:Nat) (g4:Nat→Int) (n5_:Nat) (g1051:Nat→Int) (n7_:Nat) (g1071:Nat→Int):SC:=
 ⟨[⟨197,bJ 20 [(2, .ptr 2 0),(3, .ptr 3 0),(4, .ptr 4 0)],[.code (aa Tryz.f197 [1,0,0,0]), .inLoop (aa Tryz.f197 [1,0,0,0]), .inBlock 0, .code (aa Tryz.f197 [1,1])],{}⟩],[ri n1 g2,ri n3 g4,some (.box true [.sl 1 n3]),some (.box true [.sl 7 n7_]),some (.box true [.sl 5 n5_]),ro n5_ g1051,none,ro n7_ g1071]⟩
theorem fC {X:Cx} {res:SV} {new:List (Option Vw)} {n1:Nat} {g2:Nat→Int} {n3:Nat} {g4:Nat→Int} {n5_:Nat} {g1051:Nat→Int} {n5001:Nat} {g5002:Nat→Int} {n5003:Nat} {g5004:Nat→Int} (hX:Fi X 197 [ri n1 g2,ri n3 g4] res new) (h0:((n3:Nat):Int)>0) (h1:S 198 [.agg [.sl 0 n1], .agg [.sl 1 n3]] [ri n1 g2,ri n3 g4] (.af [.agg [.sl 2 n5001], .agg [.sl 3 n5003]]) [ro n5001 g5002,ro n5003 g5004]) (k:Ok X (dq n1 g2 n3 g4 n5_ g1051 n5003 g5004)):
  Ok X (eX n1 g2 n3 g4 n5_ g1051):=
 Ok.bg 35 [tb, .call [0,1] (.af [.agg [.sl 2 n5001], .agg [.sl 3 n5003]]) [ro n5001 g5002,ro n5003 g5004]] [cN 20 [2,3,4]] [.ae 0, .ae 1, .ae 2, .ae 3, .ae 4, .ae 5, .ae 1006, .ae 7] 2 hX.P hX.gl hX.n0 (by kernel_rfl) (by kernel_rfl) (by exact⟨fun _=>rfl,fun _=>rfl,rfl,rfl,rfl,fun _=>rfl,fun _=>rfl,trivial⟩) (ca (dt h0) (ca h1 na)) k
noncomputable def bW (n1:Nat) (g2:Nat→Int) (n3:Nat) (g4:Nat→Int) (n5_:Nat) (g1051:Nat→Int) (n7_:Nat) (g1071:Nat→Int) (n9_:Nat) (g1091:Nat→Int):SC:=
 ⟨[⟨197,bJ 20 [(2, .ptr 2 0),(3, .ptr 3 0),(4, .ptr 4 0)],[.code (aa Tryz.f197 [1,0,0,0]), .inLoop (aa Tryz.f197 [1,0,0,0]), .inBlock 0, .code (aa Tryz.f197 [1,1])],{}⟩],[ri n1 g2,ri n3 g4,some (.box true [.sl 7 n7_]),some (.box true [.sl 9 n9_]),some (.box true [.sl 5 n5_]),ro n5_ g1051,none,ro n7_ g1071,none,ro n9_ g1091]⟩
theorem nS {X:Cx} {res:SV} {new:List (Option Vw)} {n1:Nat} {g2:Nat→Int} {n3:Nat} {g4:Nat→Int} {n5_:Nat} {g1051:Nat→Int} {n7_:Nat} {g1071:Nat→Int} {n5001:Nat} {g5002:Nat→Int} {n5003:Nat} {g5004:Nat→Int} (hX:Fi X 197 [ri n1 g2,ri n3 g4] res new) (h0:((n7_:Nat):Int)>0) (h1:S 198 [.agg [.sl 0 n3], .agg [.sl 1 n7_]] [ri n3 g4,ri n7_ g1071] (.af [.agg [.sl 2 n5001], .agg [.sl 3 n5003]]) [ro n5001 g5002,ro n5003 g5004]) (k:Ok X (bW n1 g2 n3 g4 n5_ g1051 n7_ g1071 n5003 g5004)):
  Ok X (dq n1 g2 n3 g4 n5_ g1051 n7_ g1071):=
 Ok.bg 35 [tb, .call [1,7] (.af [.agg [.sl 2 n5001], .agg [.sl 3 n5003]]) [ro n5001 g5002,ro n5003 g5004]] [cN 20 [2,3,4]] [.ae 0, .ae 1, .ae 2, .ae 3, .ae 4, .ae 5, .ae 1006, .ae 7, .ae 1008, .ae 9] 2 hX.P hX.gl hX.n0 (by kernel_rfl) (by kernel_rfl) (by exact⟨fun _=>rfl,fun _=>rfl,rfl,rfl,rfl,fun _=>rfl,fun _=>rfl,fun _=>rfl,trivial⟩) (ca (dt h0) (ca h1 na)) k
theorem nR {X:Cx} {n1:Nat} {g2:Nat→Int} {n3:Nat} {g4:Nat→Int} {n5_:Nat} {g1051:Nat→Int} {n7_:Nat} {g1071:Nat→Int} (hX:Fi X 197 [ri n1 g2,ri n3 g4] (.agg [.sl 1 n3]) []) (h0: ¬((n7_:Nat):Int)>0):
  Ok X (dq n1 g2 n3 g4 n5_ g1051 n7_ g1071):=
 Ok.fin 15 [fb] [] 8 hX (by kernel_rfl) rfl (ca (df h0) na)
theorem nQ {X:Cx} {res:SV} {new:List (Option Vw)} {n1:Nat} {g2:Nat→Int} {n3:Nat} {g4:Nat→Int} {n5_:Nat} {g1051:Nat→Int} {n7_:Nat} {g1071:Nat→Int} {n9_:Nat} {g1091:Nat→Int} {n5001:Nat} {g5002:Nat→Int} {n5003:Nat} {g5004:Nat→Int} (hX:Fi X 197 [ri n1 g2,ri n3 g4] res new) (h0:((n9_:Nat):Int)>0) (h1:S 198 [.agg [.sl 0 n7_], .agg [.sl 1 n9_]] [ri n7_ g1071,ri n9_ g1091] (.af [.agg [.sl 2 n5001], .agg [.sl 3 n5003]]) [ro n5001 g5002,ro n5003 g5004]) (k:Ok X (bW n1 g2 n3 g4 n5_ g1051 n9_ g1091 n5003 g5004)):
  Ok X (bW n1 g2 n3 g4 n5_ g1051 n7_ g1071 n9_ g1091):=
 Ok.bg 35 [tb, .call [7,9] (.af [.agg [.sl 2 n5001], .agg [.sl 3 n5003]]) [ro n5001 g5002,ro n5003 g5004]] [cN 20 [2,3,4]] [.ae 0, .ae 1, .ae 2, .ae 3, .ae 4, .ae 5, .ae 1006, .ae 9, .ae 1007, .ae 11] 2 hX.P hX.gl hX.n0 (by kernel_rfl) (by kernel_rfl) (by exact⟨fun _=>rfl,fun _=>rfl,rfl,rfl,rfl,fun _=>rfl,fun _=>rfl,fun _=>rfl,trivial⟩) (ca (dt h0) (ca h1 na)) k
theorem nP {X:Cx} {n1:Nat} {g2:Nat→Int} {n3:Nat} {g4:Nat→Int} {n5_:Nat} {g1051:Nat→Int} {n7_:Nat} {g1071:Nat→Int} {n9_:Nat} {g1091:Nat→Int} (hX:Fi X 197 [ri n1 g2,ri n3 g4] (.agg [.sl 2 n7_]) [ro n7_ g1071]) (h0: ¬((n9_:Nat):Int)>0):
  Ok X (bW n1 g2 n3 g4 n5_ g1051 n7_ g1071 n9_ g1091):=
 Ok.fin 15 [fb] [7] 10 hX (by kernel_rfl) rfl (ca (df h0) na)
theorem CL {X:Cx} {n1 n3 g:Nat} {n5:Nat} {g5:Nat→Int} (hX:av X Tryz.prog GL 197 [BR false n1,BR false n3] (.agg [.sl 2 (ln g)]) [BR true g]):
  ∀ (m a b:Nat),b≤m→ln a≤500→ln b≤500→Nat.gcd a b=g→Ok X (bW (ln n1) (dg n1) (ln n3) (dg n3) n5 g5 (ln a) (dg a) (ln b) (dg b)):=by
 intro m
 induction m with
 |zero=>
  intro a b hm ha hb hg
  have:b=0:=by omega
  subst this
  rw[Nat.gcd_zero_right]at hg
  subst hg
  exact nP hX (by rw[fm];omega)
 |succ m ih=>
  intro a b hm ha hb hg
  by_cases h:b=0
  ·simp_all
  ·have h1:=Nat.mod_lt a (Nat.pos_of_ne_zero h)
   refine nQ hX (by rw[jK h];omega) (Quot h ha hb) ?_
   refine ih b (a%b) (by omega) hb (Nat.le_trans (ed (Nat.le_of_lt h1)) hb) ?_
   rw[←hg,Nat.gcd_comm a b,Nat.gcd_rec b a,Nat.gcd_comm]
theorem CM {a b:Nat} (hb0:b≠0) (ha:ln a≤500) (hb:ln b≤500) (h:a%b=0):ab Tryz.prog GL 197 [.agg [.sl 0 (ln a)], .agg [.sl 1 (ln b)]] [BR false a,BR false b] (.agg [.sl 1 (ln b)]) []:=by
 refine ab.of (by kernel_rfl) rfl ⟨fun i=>rfl,fun i=>rfl,trivial⟩ rfl (fun X hX=> ?_)
 refine fD hX (fC hX (by rw[jK hb0];omega) (Quot hb0 ha hb) ?_)
 rw[h,fm]
 exact nR hX (by omega)
theorem GC {a b:Nat} (hb0:b≠0) (ha:ln a≤500) (hb:ln b≤500) (h:a%b≠0):ab Tryz.prog GL 197 [.agg [.sl 0 (ln a)], .agg [.sl 1 (ln b)]] [BR false a,BR false b] (.agg [.sl 2 (ln (Nat.gcd a b))]) [BR true (Nat.gcd a b)]:=by
 refine ab.of (by kernel_rfl) rfl ⟨fun i=>rfl,fun i=>rfl,trivial⟩ rfl (fun X hX=> ?_)
 have h1:=Nat.mod_lt a (Nat.pos_of_ne_zero hb0)
 have h2:ln (a%b)≤500:=Nat.le_trans (ed (Nat.le_of_lt h1)) hb
 refine fD hX (fC hX (by rw[jK hb0];omega) (Quot hb0 ha hb) ?_)
 refine nS hX (by rw[jK h];omega) (Quot h hb h2) ?_
 have h3:=Nat.mod_lt b (Nat.pos_of_ne_zero h)
 refine CL hX (b%(a%b)) (a%b) (b%(a%b)) (Nat.le_refl _) h2 (Nat.le_trans (ed (Nat.le_of_lt h3)) h2) ?_
 rw[Nat.gcd_comm a b,Nat.gcd_rec b a,Nat.gcd_rec (a%b) b,Nat.gcd_comm]
noncomputable def bP (n1:Nat) (g2:Nat→Int) (x1:Int) (x2:Int):SC:=
 ⟨[⟨199,bJ 22 [(1, .ptr 1 0),(3,I x1),(4,I x2)],[.code (aa Tryz.f199 [1,1,0,1,0,0]), .inLoop (aa Tryz.f199 [1,1,0,1,0,0]), .inBlock 0, .code (aa Tryz.f199 [1,1,1])],{}⟩],[ri n1 g2,some (.box true [.sl 0 n1])]⟩
theorem kh {X:Cx} {res:SV} {new:List (Option Vw)} {n1:Nat} {g2:Nat→Int} (hX:Fi X 199 [ri n1 g2] res new) (h0:aj .i64 (((n1:Nat):Int)-1)) (k:Ok X (bP n1 g2 0 (((n1:Nat):Int)-1))):
  Ok X (entry Tryz.prog 199 [.agg [.sl 0 n1]] [ri n1 g2]):=
 Ok.bg 20 [] [cN 22 [1,3,4]] [.ae 0, .ae 1] 1 hX.P hX.gl hX.n0 (by kernel_rfl) (by kernel_rfl) (by exact⟨fun _=>rfl,rfl,trivial⟩) (ca h0 na) k
theorem kg {X:Cx} {res:SV} {new:List (Option Vw)} {n1:Nat} {g2:Nat→Int} {x1 x2:Int} (hX:Fi X 199 [ri n1 g2] res new) (h0:x2≥0) (h1:aj .i64 (10000*x1)) (h2:(0:Int)≤x2∧x2<((n1:Nat):Int)) (h3:aj .i64 ((10000*x1)+(g2 x2.toNat))) (h4:aj .i64 (x2-1)) (k:Ok X (bP n1 g2 ((10000*x1)+(g2 x2.toNat)) (x2-1))):
  Ok X (bP n1 g2 x1 x2):=
 Ok.bg 28 [tb] [cN 22 [1,3,4]] [.ae 0, .ae 1] 1 hX.P hX.gl hX.n0 (by kernel_rfl) (by kernel_rfl) (by exact⟨fun _=>rfl,rfl,trivial⟩) (ca (dt h0) (ca h1 (ca h2 (ca (re n1) (ca h2 (ca h3 (ca h4 na))))))) k
theorem kf {X:Cx} {n1:Nat} {g2:Nat→Int} {x1 x2:Int} (hX:Fi X 199 [ri n1 g2] (I x1) []) (h0: ¬x2≥0):
  Ok X (bP n1 g2 x1 x2):=
 Ok.fin 13 [fb] [] 2 hX (by kernel_rfl) rfl (ca (df h0) na)
theorem sO {X:Cx} {a:Nat} (ha:a<9223372036854775808) (hX:av X Tryz.prog GL 199 [BR false a] (I (a:Int)) []):
  ∀ (i:Nat),i≤ln a→Ok X (bP (ln a) (dg a) ((a/10000^i:Nat):Int) ((i:Int)-1))
 |0,hi=>by
  grind [kf]
 |j+1,hi=>by
  have hl:ln a≤5:=bc.2 (by omega)
  have e:(((j+1:Nat):Int)-1)=(j:Int):=by omega
  have h1:10000*(((a/10000^(j+1):Nat):Int))+dg a j=((a/10000^j:Nat):Int):=by
   unfold dg cC;rw[←mZ];omega
  have h2:a/10000^j≤a:=Nat.div_le_self _ _
  have h3:=BK a j
  rw[e]
  generalize a/10000^(j+1)=p at*
  have hq:a/10000^j<9223372036854775808:=by omega
  have ih:=sO ha hX j (by omega)
  generalize a/10000^j=q at*
  refine kg hX (by omega) (by simp only[aj];omega) (by omega) ?_ (by simp only[aj];omega) ?_
  ·rw[show(j:Int).toNat=j from rfl,h1];simp only[aj];omega
  simp_all
theorem value {a:Nat} (ha:a<9223372036854775808):ab Tryz.prog GL 199 [.agg [.sl 0 (ln a)]] [BR false a] (I (a:Int)) []:=by
 refine ab.of (by kernel_rfl) rfl ⟨fun i=>rfl,trivial⟩ rfl (fun X hX=> ?_)
 have hl:ln a≤5:=bc.2 (by omega)
 refine kh hX (by simp only[aj];omega) ?_
 have:=sO ha hX (ln a) (Nat.le_refl _)
 rwa [Nat.div_eq_of_lt (kB a)]at this
theorem ly {n1:Nat} {g2:Nat→Int} {n3:Nat} {g4:Nat→Int} {n5:Nat} {g6:Nat→Int} {n7:Nat} {g8:Nat→Int} {n9:Nat} {g10:Nat→Int} {n11:Nat} {g12:Nat→Int} {n13:Nat} {g14:Nat→Int} {n15:Nat} {g16:Nat→Int} {r17:Int} (h0:S 197 [.agg [.sl 0 n1], .agg [.sl 1 n3]] [ri n1 g2,ri n3 g4] (.agg [.sl 2 n5]) [ro n5 g6]) (h1:S 198 [.agg [.sl 0 n1], .agg [.sl 1 n5]] [ri n1 g2,ri n5 g6] (.af [.agg [.sl 2 n7], .agg [.sl 3 n9]]) [ro n7 g8,ro n9 g10]) (h2:S 198 [.agg [.sl 0 n3], .agg [.sl 1 n5]] [ri n3 g4,ri n5 g6] (.af [.agg [.sl 2 n11], .agg [.sl 3 n13]]) [ro n11 g12,ro n13 g14]) (h3:S 66 [N .u64 4611686018427387904] [] (.agg [.sl 0 n15]) [ro n15 g16]) (h4:S 43 [.agg [.sl 0 n7], .agg [.sl 1 n15]] [ri n7 g8,ri n15 g16] (I r17) []) (h5:r17>0):
  S 153 [.agg [.sl 0 n1], .agg [.sl 1 n3]] [ri n1 g2,ri n3 g4] (.af [.agg [I 0,I 0],I 6]) []:=
 ab.path 68 [.call [0,1] (.agg [.sl 2 n5]) [ro n5 g6], .call [0,5] (.af [.agg [.sl 2 n7], .agg [.sl 3 n9]]) [ro n7 g8,ro n9 g10], .call [1,5] (.af [.agg [.sl 2 n11], .agg [.sl 3 n13]]) [ro n11 g12,ro n13 g14], .call [] (.agg [.sl 0 n15]) [ro n15 g16], .call [7,15] (I r17) [],tb,tb,tb,tb,tb,tb] [] 17 (by kernel_rfl) rfl (by exact⟨fun _=>rfl,fun _=>rfl,trivial⟩) (ca h0 (ca h1 (ca h2 (ca h3 (ca h4 (ca (dt h5) (ca (dt h5) (ca (dt h5) (ca (dt h5) (ca (dt h5) (ca rt na)))))))))))
theorem lx {n1:Nat} {g2:Nat→Int} {n3:Nat} {g4:Nat→Int} {n5:Nat} {g6:Nat→Int} {n7:Nat} {g8:Nat→Int} {n9:Nat} {g10:Nat→Int} {n11:Nat} {g12:Nat→Int} {n13:Nat} {g14:Nat→Int} {n15:Nat} {g16:Nat→Int} {r17 r18:Int} (h0:S 197 [.agg [.sl 0 n1], .agg [.sl 1 n3]] [ri n1 g2,ri n3 g4] (.agg [.sl 2 n5]) [ro n5 g6]) (h1:S 198 [.agg [.sl 0 n1], .agg [.sl 1 n5]] [ri n1 g2,ri n5 g6] (.af [.agg [.sl 2 n7], .agg [.sl 3 n9]]) [ro n7 g8,ro n9 g10]) (h2:S 198 [.agg [.sl 0 n3], .agg [.sl 1 n5]] [ri n3 g4,ri n5 g6] (.af [.agg [.sl 2 n11], .agg [.sl 3 n13]]) [ro n11 g12,ro n13 g14]) (h3:S 66 [N .u64 4611686018427387904] [] (.agg [.sl 0 n15]) [ro n15 g16]) (h4:S 43 [.agg [.sl 0 n7], .agg [.sl 1 n15]] [ri n7 g8,ri n15 g16] (I r17) []) (h5: ¬r17>0) (h6:S 43 [.agg [.sl 0 n11], .agg [.sl 1 n15]] [ri n11 g12,ri n15 g16] (I r18) []) (h7:r18>0):
  S 153 [.agg [.sl 0 n1], .agg [.sl 1 n3]] [ri n1 g2,ri n3 g4] (.af [.agg [I 0,I 0],I 6]) []:=
 ab.path 68 [.call [0,1] (.agg [.sl 2 n5]) [ro n5 g6], .call [0,5] (.af [.agg [.sl 2 n7], .agg [.sl 3 n9]]) [ro n7 g8,ro n9 g10], .call [1,5] (.af [.agg [.sl 2 n11], .agg [.sl 3 n13]]) [ro n11 g12,ro n13 g14], .call [] (.agg [.sl 0 n15]) [ro n15 g16], .call [7,15] (I r17) [],fb,fb,fb, .call [11,15] (I r18) [],fb,fb,tb] [] 17 (by kernel_rfl) rfl (by exact⟨fun _=>rfl,fun _=>rfl,trivial⟩) (ca h0 (ca h1 (ca h2 (ca h3 (ca h4 (ca (df h5) (ca (df h5) (ca (df h5) (ca h6 (ca (df h5) (ca (df h5) (ca (dt h7) na))))))))))))
theorem lv {n1:Nat} {g2:Nat→Int} {n3:Nat} {g4:Nat→Int} {n5:Nat} {g6:Nat→Int} {n7:Nat} {g8:Nat→Int} {n9:Nat} {g10:Nat→Int} {n11:Nat} {g12:Nat→Int} {n13:Nat} {g14:Nat→Int} {n15:Nat} {g16:Nat→Int} {r17 r18 r19 r20:Int} (h0:S 197 [.agg [.sl 0 n1], .agg [.sl 1 n3]] [ri n1 g2,ri n3 g4] (.agg [.sl 2 n5]) [ro n5 g6]) (h1:S 198 [.agg [.sl 0 n1], .agg [.sl 1 n5]] [ri n1 g2,ri n5 g6] (.af [.agg [.sl 2 n7], .agg [.sl 3 n9]]) [ro n7 g8,ro n9 g10]) (h2:S 198 [.agg [.sl 0 n3], .agg [.sl 1 n5]] [ri n3 g4,ri n5 g6] (.af [.agg [.sl 2 n11], .agg [.sl 3 n13]]) [ro n11 g12,ro n13 g14]) (h3:S 66 [N .u64 4611686018427387904] [] (.agg [.sl 0 n15]) [ro n15 g16]) (h4:S 43 [.agg [.sl 0 n7], .agg [.sl 1 n15]] [ri n7 g8,ri n15 g16] (I r17) []) (h5: ¬r17>0) (h6:S 43 [.agg [.sl 0 n11], .agg [.sl 1 n15]] [ri n11 g12,ri n15 g16] (I r18) []) (h7: ¬r18>0) (h8:S 199 [.agg [.sl 0 n7]] [ri n7 g8] (I r19) []) (h9:S 199 [.agg [.sl 0 n11]] [ri n11 g12] (I r20) []):
  S 153 [.agg [.sl 0 n1], .agg [.sl 1 n3]] [ri n1 g2,ri n3 g4] (.af [.agg [I r19,I r20],I 0]) []:=
 ab.path 70 [.call [0,1] (.agg [.sl 2 n5]) [ro n5 g6], .call [0,5] (.af [.agg [.sl 2 n7], .agg [.sl 3 n9]]) [ro n7 g8,ro n9 g10], .call [1,5] (.af [.agg [.sl 2 n11], .agg [.sl 3 n13]]) [ro n11 g12,ro n13 g14], .call [] (.agg [.sl 0 n15]) [ro n15 g16], .call [7,15] (I r17) [],fb,fb,fb, .call [11,15] (I r18) [],fb,fb,fb, .draw 3 [] 0, .call [7] (I r19) [], .call [11] (I r20) []] [] 17 (by kernel_rfl) rfl (by exact⟨fun _=>rfl,fun _=>rfl,trivial⟩) (ca h0 (ca h1 (ca h2 (ca h3 (ca h4 (ca (df h5) (ca (df h5) (ca (df h5) (ca h6 (ca (df h5) (ca (df h5) (ca (df h7) (ca h8 (ca h9 na))))))))))))))
theorem lu {n1:Nat} {g2:Nat→Int} {n3:Nat} {g4:Nat→Int} {n5:Nat} {g6:Nat→Int} {n7:Nat} {g8:Nat→Int} {n9:Nat} {g10:Nat→Int} {n11:Nat} {g12:Nat→Int} {n13:Nat} {g14:Nat→Int} {r15:Int} (h0:S 197 [.agg [.sl 0 n1], .agg [.sl 1 n3]] [ri n1 g2,ri n3 g4] (.agg [.sl 1 n3]) []) (h1:S 198 [.agg [.sl 0 n1], .agg [.sl 1 n3]] [ri n1 g2,ri n3 g4] (.af [.agg [.sl 2 n5], .agg [.sl 3 n7]]) [ro n5 g6,ro n7 g8]) (h2:S 198 [.agg [.sl 0 n3], .agg [.sl 0 n3]] [ri n3 g4] (.af [.agg [.sl 1 n9], .agg [.sl 2 n11]]) [ro n9 g10,ro n11 g12]) (h3:S 66 [N .u64 4611686018427387904] [] (.agg [.sl 0 n13]) [ro n13 g14]) (h4:S 43 [.agg [.sl 0 n5], .agg [.sl 1 n13]] [ri n5 g6,ri n13 g14] (I r15) []) (h5:r15>0):
  S 153 [.agg [.sl 0 n1], .agg [.sl 1 n3]] [ri n1 g2,ri n3 g4] (.af [.agg [I 0,I 0],I 6]) []:=
 ab.path 68 [.call [0,1] (.agg [.sl 1 n3]) [], .call [0,1] (.af [.agg [.sl 2 n5], .agg [.sl 3 n7]]) [ro n5 g6,ro n7 g8], .call [1] (.af [.agg [.sl 1 n9], .agg [.sl 2 n11]]) [ro n9 g10,ro n11 g12], .call [] (.agg [.sl 0 n13]) [ro n13 g14], .call [6,14] (I r15) [],tb,tb,tb,tb,tb,tb] [] 16 (by kernel_rfl) rfl (by exact⟨fun _=>rfl,fun _=>rfl,trivial⟩) (ca h0 (ca h1 (ca h2 (ca h3 (ca h4 (ca (dt h5) (ca (dt h5) (ca (dt h5) (ca (dt h5) (ca (dt h5) (ca rt na)))))))))))
theorem ll {n1:Nat} {g2:Nat→Int} {n3:Nat} {g4:Nat→Int} {n5:Nat} {g6:Nat→Int} {n7:Nat} {g8:Nat→Int} {n9:Nat} {g10:Nat→Int} {n11:Nat} {g12:Nat→Int} {n13:Nat} {g14:Nat→Int} {r15 r16:Int} (h0:S 197 [.agg [.sl 0 n1], .agg [.sl 1 n3]] [ri n1 g2,ri n3 g4] (.agg [.sl 1 n3]) []) (h1:S 198 [.agg [.sl 0 n1], .agg [.sl 1 n3]] [ri n1 g2,ri n3 g4] (.af [.agg [.sl 2 n5], .agg [.sl 3 n7]]) [ro n5 g6,ro n7 g8]) (h2:S 198 [.agg [.sl 0 n3], .agg [.sl 0 n3]] [ri n3 g4] (.af [.agg [.sl 1 n9], .agg [.sl 2 n11]]) [ro n9 g10,ro n11 g12]) (h3:S 66 [N .u64 4611686018427387904] [] (.agg [.sl 0 n13]) [ro n13 g14]) (h4:S 43 [.agg [.sl 0 n5], .agg [.sl 1 n13]] [ri n5 g6,ri n13 g14] (I r15) []) (h5: ¬r15>0) (h6:S 43 [.agg [.sl 0 n9], .agg [.sl 1 n13]] [ri n9 g10,ri n13 g14] (I r16) []) (h7:r16>0):
  S 153 [.agg [.sl 0 n1], .agg [.sl 1 n3]] [ri n1 g2,ri n3 g4] (.af [.agg [I 0,I 0],I 6]) []:=
 ab.path 68 [.call [0,1] (.agg [.sl 1 n3]) [], .call [0,1] (.af [.agg [.sl 2 n5], .agg [.sl 3 n7]]) [ro n5 g6,ro n7 g8], .call [1] (.af [.agg [.sl 1 n9], .agg [.sl 2 n11]]) [ro n9 g10,ro n11 g12], .call [] (.agg [.sl 0 n13]) [ro n13 g14], .call [6,14] (I r15) [],fb,fb,fb, .call [10,14] (I r16) [],fb,fb,tb] [] 16 (by kernel_rfl) rfl (by exact⟨fun _=>rfl,fun _=>rfl,trivial⟩) (ca h0 (ca h1 (ca h2 (ca h3 (ca h4 (ca (df h5) (ca (df h5) (ca (df h5) (ca h6 (ca (df h5) (ca (df h5) (ca (dt h7) na))))))))))))
theorem lk {n1:Nat} {g2:Nat→Int} {n3:Nat} {g4:Nat→Int} {n5:Nat} {g6:Nat→Int} {n7:Nat} {g8:Nat→Int} {n9:Nat} {g10:Nat→Int} {n11:Nat} {g12:Nat→Int} {n13:Nat} {g14:Nat→Int} {r15 r16 r17 r18:Int} (h0:S 197 [.agg [.sl 0 n1], .agg [.sl 1 n3]] [ri n1 g2,ri n3 g4] (.agg [.sl 1 n3]) []) (h1:S 198 [.agg [.sl 0 n1], .agg [.sl 1 n3]] [ri n1 g2,ri n3 g4] (.af [.agg [.sl 2 n5], .agg [.sl 3 n7]]) [ro n5 g6,ro n7 g8]) (h2:S 198 [.agg [.sl 0 n3], .agg [.sl 0 n3]] [ri n3 g4] (.af [.agg [.sl 1 n9], .agg [.sl 2 n11]]) [ro n9 g10,ro n11 g12]) (h3:S 66 [N .u64 4611686018427387904] [] (.agg [.sl 0 n13]) [ro n13 g14]) (h4:S 43 [.agg [.sl 0 n5], .agg [.sl 1 n13]] [ri n5 g6,ri n13 g14] (I r15) []) (h5: ¬r15>0) (h6:S 43 [.agg [.sl 0 n9], .agg [.sl 1 n13]] [ri n9 g10,ri n13 g14] (I r16) []) (h7: ¬r16>0) (h8:S 199 [.agg [.sl 0 n5]] [ri n5 g6] (I r17) []) (h9:S 199 [.agg [.sl 0 n9]] [ri n9 g10] (I r18) []):
  S 153 [.agg [.sl 0 n1], .agg [.sl 1 n3]] [ri n1 g2,ri n3 g4] (.af [.agg [I r17,I r18],I 0]) []:=
 ab.path 70 [.call [0,1] (.agg [.sl 1 n3]) [], .call [0,1] (.af [.agg [.sl 2 n5], .agg [.sl 3 n7]]) [ro n5 g6,ro n7 g8], .call [1] (.af [.agg [.sl 1 n9], .agg [.sl 2 n11]]) [ro n9 g10,ro n11 g12], .call [] (.agg [.sl 0 n13]) [ro n13 g14], .call [6,14] (I r15) [],fb,fb,fb, .call [10,14] (I r16) [],fb,fb,fb, .draw 3 [] 0, .call [6] (I r17) [], .call [10] (I r18) []] [] 16 (by kernel_rfl) rfl (by exact⟨fun _=>rfl,fun _=>rfl,trivial⟩) (ca h0 (ca h1 (ca h2 (ca h3 (ca h4 (ca (df h5) (ca (df h5) (ca (df h5) (ca h6 (ca (df h5) (ca (df h5) (ca (df h7) (ca h8 (ca h9 na))))))))))))))
theorem Made {n d:Nat} (hd:d≠0) (hln:ln n≤500) (hld:ln d≤500):ab Tryz.prog GL 153 [.agg [.sl 0 (ln n)], .agg [.sl 1 (ln d)]] [BR false n,BR false d] (RT (Br n d)) []:=by
 have hg0:Nat.gcd n d≠0:=fun h=>hd (Nat.eq_zero_of_gcd_eq_zero_right h)
 have hlg:ln (Nat.gcd n d)≤500:=Nat.le_trans (ed (Nat.le_of_dvd (by omega) (Nat.gcd_dvd_right n d))) hld
 have hq1:ln (n/Nat.gcd n d)≤500:=Nat.le_trans (ed (Nat.div_le_self _ _)) hln
 have hq2:ln (d/Nat.gcd n d)≤500:=Nat.le_trans (ed (Nat.div_le_self _ _)) hld
 have hm:ln 4611686018427387904≤500:=Nat.le_trans (Fp (by decide)) (by decide)
 have c4:= @yX _ 4611686018427387904 (by decide)
 have c5:=HH (a:=n/Nat.gcd n d) (b:=4611686018427387904) (by omega) (by omega)
 have c6:=HH (a:=d/Nat.gcd n d) (b:=4611686018427387904) (by omega) (by omega)
 have hc: ∀ x:Nat,cX (x:Int) ((4611686018427387904:Nat):Int)>0↔x>4611686018427387904:=by
  intro x;unfold cX;split<;>(try split)<;>omega
 by_cases h:n%d=0
 ·have hg:Nat.gcd n d=d:=by rw[Nat.gcd_comm,Nat.gcd_rec,h,Nat.gcd_zero_left]
  unfold Br
  rw[hg]at c5 c6⊢
  have c1:=CM hd hln hld h
  have c2:= @Quot _ n d hd hln hld
  have c3:= @CJ _ d hd hld
  by_cases h1:n/d>4611686018427387904
  ·rw[if_pos (.inl h1)]
   exact lu c1 c2 c3 c4 c5 ((hc _).2 h1)
  ·by_cases h2:d/d>4611686018427387904
   ·rw[if_pos (.inr h2)]
    exact ll c1 c2 c3 c4 c5 (fun h=>h1 ((hc _).1 h)) c6 ((hc _).2 h2)
   ·rw[if_neg (by omega)]
    exact lk c1 c2 c3 c4 c5 (fun h=>h1 ((hc _).1 h)) c6 (fun h=>h2 ((hc _).1 h)) (value (by omega)) (value (by omega))
 ·unfold Br
  have c1:=GC hd hln hld h
  have c2:= @Quot _ n (Nat.gcd n d) hg0 hln hlg
  have c3:= @Quot _ d (Nat.gcd n d) hg0 hld hlg
  by_cases h1:n/Nat.gcd n d>4611686018427387904
  ·rw[if_pos (.inl h1)]
   exact ly c1 c2 c3 c4 c5 ((hc _).2 h1)
  ·by_cases h2:d/Nat.gcd n d>4611686018427387904
   ·rw[if_pos (.inr h2)]
    exact lx c1 c2 c3 c4 c5 (fun h=>h1 ((hc _).1 h)) c6 ((hc _).2 h2)
   ·rw[if_neg (by omega)]
    exact lv c1 c2 c3 c4 c5 (fun h=>h1 ((hc _).1 h)) c6 (fun h=>h2 ((hc _).1 h)) (value (by omega)) (value (by omega))
theorem nO {a1 a2:Int} {n3:Nat} {g4:Nat→Int} {n5:Nat} {g6:Nat→Int} {r7 r8 r9:Int} (h0: ¬a1<0) (h1: ¬a2<0) (h2:a2≠0) (h3:S 42 [I a1] [] (.agg [.sl 0 n3]) [ro n3 g4]) (h4:S 42 [I a2] [] (.agg [.sl 0 n5]) [ro n5 g6]) (h5:S 153 [.agg [.sl 0 n3], .agg [.sl 1 n5]] [ri n3 g4,ri n5 g6] (.af [.agg [I r7,I r8],I r9]) []):
  S 117 [I a1,I a2] [] (.af [.agg [I r7,I r8],I r9]) []:=
 ab.path 37 [fb,fb,fb,fb,fb, .call [] (.agg [.sl 0 n3]) [ro n3 g4], .call [] (.agg [.sl 0 n5]) [ro n5 g6], .call [1,2] (.af [.agg [I r7,I r8],I r9]) []] [] 3 (by kernel_rfl) rfl (by exact trivial) (ca (df h0) (ca (df h0) (ca (df h0) (ca (df h1) (ca (beq_eq_false_iff_ne.2 h2) (ca h3 (ca h4 (ca h5 na))))))))
theorem A6 {n d:Nat} (hn:n<9223372036854775808) (hd:d<9223372036854775808) (hd0:d≠0):ab Tryz.prog GL 117 [I (n:Int),I (d:Int)] [] (RT (Br n d)) []:=
 nO (by omega) (by omega) (by omega) (pT hn) (pT hd) (Made hd0 (Nat.le_trans (Fp (by omega)) (by decide)) (Nat.le_trans (Fp (by omega)) (by decide)))
theorem nN {a1 a2:Int} {n3:Nat} {g4:Nat→Int} {n5:Nat} {g6:Nat→Int} (h0:S 42 [I a1] [] (.agg [.sl 0 n3]) [ro n3 g4]) (h1:S 42 [I a2] [] (.agg [.sl 0 n5]) [ro n5 g6]):
  S 154 [.agg [I a1,I a2]] [] (.af [.agg [.sl 0 n3], .agg [.sl 1 n5]]) [ro n3 g4,ro n5 g6]:=
 ab.path 12 [.draw 5 [] 0, .call [] (.agg [.sl 0 n3]) [ro n3 g4], .call [] (.agg [.sl 0 n5]) [ro n5 g6]] [3,4] 5 (by kernel_rfl) rfl (by exact trivial) (ca h0 (ca h1 na))
theorem Mp {n d:Nat} (hn:n<9223372036854775808) (hd:d<9223372036854775808):ab Tryz.prog GL 154 [.agg [I (n:Int),I (d:Int)]] [] (.af [.agg [.sl 0 (ln n)], .agg [.sl 1 (ln d)]]) [BR true n,BR true d]:=
 nN (pT hn) (pT hd)
theorem nT {a1 a2 a3 a4:Int} {n5:Nat} {g6:Nat→Int} {n7:Nat} {g8:Nat→Int} {n9:Nat} {g10:Nat→Int} {n11:Nat} {g12:Nat→Int} {n13:Nat} {g14:Nat→Int} {n15:Nat} {g16:Nat→Int} {n17:Nat} {g18:Nat→Int} {n19:Nat} {g20:Nat→Int} {r21 r22 r23:Int} (h0:S 154 [.agg [I a1,I a2]] [] (.af [.agg [.sl 0 n5], .agg [.sl 1 n7]]) [ro n5 g6,ro n7 g8]) (h1:S 154 [.agg [I a3,I a4]] [] (.af [.agg [.sl 0 n9], .agg [.sl 1 n11]]) [ro n9 g10,ro n11 g12]) (h2:S 41 [.agg [.sl 0 n5], .agg [.sl 1 n11]] [ri n5 g6,ri n11 g12] (.agg [.sl 2 n13]) [ro n13 g14]) (h3:S 41 [.agg [.sl 0 n9], .agg [.sl 1 n7]] [ri n9 g10,ri n7 g8] (.agg [.sl 2 n15]) [ro n15 g16]) (h4:S 155 [.agg [.sl 0 n13], .agg [.sl 1 n15]] [ri n13 g14,ri n15 g16] (.agg [.sl 2 n17]) [ro n17 g18]) (h5:S 41 [.agg [.sl 0 n7], .agg [.sl 1 n11]] [ri n7 g8,ri n11 g12] (.agg [.sl 2 n19]) [ro n19 g20]) (h6:S 153 [.agg [.sl 0 n17], .agg [.sl 1 n19]] [ri n17 g18,ri n19 g20] (.af [.agg [I r21,I r22],I r23]) []):
  S 119 [.agg [I a1,I a2], .agg [I a3,I a4]] [] (.af [.agg [I r21,I r22],I r23]) []:=
 ab.path 36 [.call [] (.af [.agg [.sl 0 n5], .agg [.sl 1 n7]]) [ro n5 g6,ro n7 g8], .call [] (.af [.agg [.sl 0 n9], .agg [.sl 1 n11]]) [ro n9 g10,ro n11 g12], .draw 13 [] 0, .call [3,8] (.agg [.sl 2 n13]) [ro n13 g14], .call [7,4] (.agg [.sl 2 n15]) [ro n15 g16], .call [11,12] (.agg [.sl 2 n17]) [ro n17 g18], .call [4,8] (.agg [.sl 2 n19]) [ro n19 g20], .call [13,14] (.af [.agg [I r21,I r22],I r23]) []] [] 15 (by kernel_rfl) rfl (by exact trivial) (ca h0 (ca h1 (ca h2 (ca h3 (ca h4 (ca h5 (ca h6 na)))))))
theorem A7 {a b c d:Nat} (ha:a<9223372036854775808) (hb:b<9223372036854775808) (hc:c<9223372036854775808) (hd:d<9223372036854775808) (hb0:b≠0) (hd0:d≠0):
  ab Tryz.prog GL 119 [.agg [I (a:Int),I (b:Int)], .agg [I (c:Int),I (d:Int)]] [] (RT (Br (a*d+c*b) (b*d))) []:=by
 have l: ∀ x:Nat,x<9223372036854775808→ln x≤5:=fun x hx=>bc.2 (by omega)
 have h1:=l a ha
 have h2:=l b hb
 have h3:=l c hc
 have h4:=l d hd
 have h5:=ia a d
 have h6:=ia c b
 have h7:=ia b d
 have h8:=zN (a*d) (c*b)
 exact nT (Mp ha hb) (Mp hc hd) (Prod (by omega) (by omega)) (Prod (by omega) (by omega)) (Ju (by omega) (by omega)) (Prod (by omega) (by omega)) (Made (Nat.mul_ne_zero hb0 hd0) (by omega) (by omega))
end Go.Proofs.YtelidogcomffkaaGreatDoor
namespace Go.Proofs.YtelidogcomffkaaGreatDoor
open Go Go.Sx
variable [Env]
def pB (n d:Nat):Nat:=if 2*(n%d)>d∨2*(n%d)=d∧n/d%2=1 then n/d+1 else n/d
def tl (v:Nat):Int×Int:=if v>4611686018427387904 then(0,6)else((v:Int),0)
abbrev IT (r:Int×Int):SV:= .af [I r.1,I r.2]
def y4 (a b n d per:Int):Int×Int:=
 if a<0∨b<0∨per<1 then(0,1)
 else if 340282366920938463463374607431768211456≤a.toNat*b.toNat*n.toNat∨18446744073709551616≤per.toNat*d.toNat then(0,6)
 else tl (pB (a.toNat*b.toNat*n.toNat) (per.toNat*d.toNat))
theorem fo {a b:Nat}:cX (a:Int) (b:Int)>0↔b<a:=by unfold cX;split<;>(try split)<;>omega
theorem sB {a b:Nat}:cX (a:Int) (b:Int)≥0↔b≤a:=by unfold cX;split<;>(try split)<;>omega
theorem An {a b:Nat}:cX (a:Int) (b:Int)=0↔a=b:=by unfold cX;split<;>(try split)<;>omega
theorem I2 {q w:Nat} (h:w<18446744073709551616):(q*18446744073709551616+w)/18446744073709551616=q:=by omega
theorem I1 {q w:Nat} (h:w<18446744073709551616):(q*18446744073709551616+w)%18446744073709551616=w:=by omega
theorem CN {x d:Nat} (hd:d≠0) (hd2:d<18446744073709551616) (hx:x<340282366920938463463374607431768211456):S 225 [dR x,N .u64 (d:Int)] [] (.af [dR (x/d),N .u64 ((x%d:Nat):Int),I 0]) []:=by
 have hp:0<d:=Nat.pos_of_ne_zero hd
 have h1:=Hv (h:=0) (l:=x/18446744073709551616) (d:=d) hp hd2 (by omega)
 have m1:=Nat.mod_lt (x/18446744073709551616) hp
 have h2:=Hv (h:=x/18446744073709551616%d) (l:=x%18446744073709551616) (d:=d) m1 hd2 (by omega)
 rw[Nat.zero_mul,Nat.zero_add]at h1
 have:=sN (by omega) h1 h2
 have e0:=Nat.div_add_mod (x/18446744073709551616) d
 obtain⟨q,hq⟩: ∃ q,x/18446744073709551616/d=q:=⟨_,rfl⟩
 obtain⟨r,hr⟩: ∃ r,x/18446744073709551616%d=r:=⟨_,rfl⟩
 rw[hq,hr]at e0 this
 rw[hr]at m1
 have ex:x=d*(q*18446744073709551616)+(r*18446744073709551616+x%18446744073709551616):=by
  grind
 have l1:(r*18446744073709551616+x%18446744073709551616)/d<18446744073709551616:=(Nat.div_lt_iff_lt_mul hp).2 (by
  have:(r+1)*18446744073709551616≤d*18446744073709551616:=Nat.mul_le_mul_right _ m1
  omega)
 have e1:x/d=q*18446744073709551616+(r*18446744073709551616+x%18446744073709551616)/d:=by
  conv=>lhs;rw[ex]
  rw[Nat.mul_add_div hp]
 have e2:x%d=(r*18446744073709551616+x%18446744073709551616)%d:=by
  conv=>lhs;rw[ex]
  rw[Nat.mul_add_mod]
 rw[←e2]at this
 obtain⟨w,hw⟩: ∃ w,(r*18446744073709551616+x%18446744073709551616)/d=w:=⟨_,rfl⟩
 rw[hw]at e1 l1 this
 rw[e1]
 unfold dR
 rw[I2 l1,I1 l1]
 exact this
theorem Fm {x y:Nat} (h:340282366920938463463374607431768211456≤x+y) (hx:x<340282366920938463463374607431768211456) (hy:y<340282366920938463463374607431768211456):
  S 224 [dR x,dR y] [] (.af [.agg [N .u64 0,N .u64 0],I 6]) []:=by
 have h0:= @B5 _ (x%18446744073709551616) (y%18446744073709551616) 0 (by decide)
 have h1:= @B5 _ (x/18446744073709551616) (y/18446744073709551616) ((x%18446744073709551616+y%18446744073709551616+0)/18446744073709551616) (by omega)
 exact zc h0 h1 (by omega)
theorem wc {a1 a2 a3:Int} {res:SV} (H: ∃ r4 r5:Int,S 202 [N .u64 a2,N .u64 a3] [] (.agg [N .u64 r4,N .u64 r5]) []∧ ∃ r6 r7:Int,S 202 [N .u64 a1,N .u64 a3] [] (.agg [N .u64 r6,N .u64 r7]) []∧(r6≠0→(SV.af [.agg [N .u64 0,N .u64 0],I 6])=res)∧(r6=0→ ∃ r8 r9 r10:Int,S 224 [.agg [N .u64 r4,N .u64 r5], .agg [N .u64 r7,N .u64 0]] [] (.af [.agg [N .u64 r8,N .u64 r9],I r10]) []∧(SV.af [.agg [N .u64 r8,N .u64 r9],I r10])=res)):
  S 201 [.agg [N .u64 a1,N .u64 a2],N .u64 a3] [] res []:=by
 refine ab.st fun X hX=> ?_
 obtain⟨r4,r5,h0,r6,r7,h1,H1,H2⟩:=H
 refine hX.go [d_ 10,c_ [] h0,c_ [] h1] ?_
 by_cases h2:r6=0
 ·obtain⟨r8,r9,r10,h3,rfl⟩:=H2 h2
  exact hX.e [f_ (bne_eq_false_iff_eq.2 h2),c_ [] h3]
 ·obtain rfl:=H1 h2
  exact hX.e [t_ (bne_iff_ne.2 h2)]
theorem AJ {x n:Nat} (hx:x<340282366920938463463374607431768211456) (hn:n<18446744073709551616):
  S 201 [dR x,N .u64 (n:Int)] [] (if x*n<340282366920938463463374607431768211456 then .af [dR (x*n),I 0]else .af [.agg [N .u64 0,N .u64 0],I 6]) []:=by
 have e:x*n=x/18446744073709551616*n*18446744073709551616+x%18446744073709551616*n:=by
  have hB:x=x/18446744073709551616*18446744073709551616+x%18446744073709551616:=by omega
  grind
 have hlow:x%18446744073709551616*n≤18446744073709551615*18446744073709551615:=Nat.mul_le_mul (by omega) (by omega)
 refine wc ⟨_,_,eT (by omega) hn,_,_,eT (a:=x/18446744073709551616) (by omega) hn,fun c=> ?_,fun c=> ?_⟩
 ·rw[if_neg (by omega)]
 ·obtain⟨p,hp⟩: ∃ p,x/18446744073709551616*n=p:=⟨_,rfl⟩
  obtain⟨w,hw⟩: ∃ w,x%18446744073709551616*n=w:=⟨_,rfl⟩
  rw[hp]at c⊢
  rw[hw]at hlow⊢
  rw[hp,hw]at e
  have e1:p*18446744073709551616/18446744073709551616=p%18446744073709551616:=by omega
  have e2:p*18446744073709551616%18446744073709551616=0:=by omega
  by_cases h:x*n<340282366920938463463374607431768211456
  ·rw[if_pos h]
   have:=y3 (x:=w) (y:=p*18446744073709551616) (by omega)
   rw[show w+p*18446744073709551616=x*n by omega]at this
   unfold dR at this⊢
   rw[e1,e2]at this
   exact⟨_,_,_,this,rfl⟩
  ·rw[if_neg h]
   have:=Fm (x:=w) (y:=p*18446744073709551616) (by omega) (by omega) (by omega)
   grind
theorem wu {a1 a2:Int} {res:SV} (H: ∃ r3 r4:Int,S 223 [N .u64 4611686018427387904] [] (.agg [N .u64 r3,N .u64 r4]) []∧ ∃ r5:Int,S 239 [.agg [N .u64 a1,N .u64 a2], .agg [N .u64 r3,N .u64 r4]] [] (I r5) []∧(r5>0→(SV.af [I 0,I 6])=res)∧(¬r5>0→Ir a2∧(SV.af [I a2,I 0])=res)):
  S 231 [.agg [N .u64 a1,N .u64 a2]] [] res []:=by
 refine ab.st fun X hX=> ?_
 obtain⟨r3,r4,h0,r5,h1,H1,H2⟩:=H
 refine hX.go [d_ 2,c_ [] h0,c_ [] h1] ?_
 by_cases h2:r5>0
 ·obtain rfl:=H1 h2
  exact hX.e [t_ (dt h2)]
 ·obtain⟨h3,rfl⟩:=H2 h2
  exact hX.e [f_ (df h2),q_ h3]
theorem vv (v:Nat):S 231 [dR v] [] (IT (tl v)) []:=by
 refine wu ⟨_,_,qC (x:=4611686018427387904) (by decide),_,uK v 4611686018427387904,fun c=> ?_,fun c=> ?_⟩
 ·unfold tl;rw[if_pos (fo.1 c)]
 ·have h: ¬v>4611686018427387904:=fun h=>c (fo.2 h)
  unfold tl;rw[if_neg h,show v%18446744073709551616=v by omega]
  exact⟨by simp only[Ir,aj];omega,rfl⟩
theorem zm {a1 a2:Int} {a3:Bool} {res:SV} (H:jn (a2-a1)∧(a1=(a2-a1)→(a3=true→B true=res)∧(a3=false→(a1>(a2-a1)→B true=res)∧(¬a1>(a2-a1)→B false=res)))∧(a1≠(a2-a1)→(a1>(a2-a1)→B true=res)∧(¬a1>(a2-a1)→B false=res))):
  S 232 [N .u64 a1,N .u64 a2,B a3] [] res []:=by
 refine ab.st fun X hX=> ?_
 obtain⟨h0,H1,H2⟩:=H
 refine hX.go [q_ h0] ?_
 by_cases h1:a1=(a2-a1)
 ·obtain⟨H1,H2⟩:=H1 h1
  refine hX.go [t_ (beq_iff_eq.2 h1),t_ (beq_iff_eq.2 h1)] ?_
  rcases aq a3 with h2|h2
  ·obtain rfl:=H1 h2
   exact hX.e [t_ h2]
  ·obtain⟨H1,H2⟩:=H2 h2
   refine hX.go [f_ h2] ?_
   by_cases h3:a1>(a2-a1)
   ·omega
   ·obtain rfl:=H2 h3
    exact hX.e [f_ (df h3)]
 ·obtain⟨H1,H2⟩:=H2 h1
  refine hX.go [f_ (beq_eq_false_iff_ne.2 h1),f_ (beq_eq_false_iff_ne.2 h1),f_ rf] ?_
  by_cases h2:a1>(a2-a1)
  ·obtain rfl:=H1 h2
   exact hX.e [t_ (dt h2)]
  ·obtain rfl:=H2 h2
   exact hX.e [f_ (df h2)]
theorem JE {l d:Nat} {o:Bool} (h:l≤d) (hd:d<18446744073709551616):S 232 [N .u64 (l:Int),N .u64 (d:Int),B o] [] (B (decide (2*l>d∨2*l=d∧o=true))) []:=by
 refine zm ⟨by simp only[jn,aj];omega,fun c=>⟨fun e=> ?_,fun e=>⟨fun g=>by omega,fun g=> ?_⟩⟩,fun c=>⟨fun g=> ?_,fun g=> ?_⟩⟩
 ·rw[decide_eq_true (.inr ⟨by omega,e⟩)]
 ·grind
 ·grind
 ·rw[decide_eq_false (by rintro (q|q)<;>omega)]
theorem wx {a1 a2 a3:Int} {res:SV} (H: ∃ r4 r5 r6 r7:Int,S 225 [.agg [N .u64 a1,N .u64 a2],N .u64 a3] [] (.af [.agg [N .u64 r4,N .u64 r5],N .u64 r6,I r7]) []∧(r7≠0→(SV.af [I 0,I r7])=res)∧(r7=0→ ∃ r8 r9:Int,S 231 [.agg [N .u64 r4,N .u64 r5]] [] (.af [I r8,I r9]) []∧(r9=0→(0:Int)≤r8∧ ∃ r10:Bool,S 232 [N .u64 r6,N .u64 a3,B ((r8%2)==1)] [] (B r10) []∧(r10=true→jn r8∧jn (r8+1)∧ ∃ r11 r12:Int,S 223 [N .u64 (r8+1)] [] (.agg [N .u64 r11,N .u64 r12]) []∧ ∃ r13 r14:Int,S 231 [.agg [N .u64 r11,N .u64 r12]] [] (.af [I r13,I r14]) []∧(SV.af [I r13,I r14])=res)∧(r10=false→(SV.af [I r8,I r9])=res))∧(r9≠0→(SV.af [I r8,I r9])=res))):
  S 203 [.agg [N .u64 a1,N .u64 a2],N .u64 a3] [] res []:=by
 refine ab.st fun X hX=> ?_
 obtain⟨r4,r5,r6,r7,h0,H1,H2⟩:=H
 refine hX.go [c_ [] h0] ?_
 by_cases h1:r7=0
 ·obtain⟨r8,r9,h2,H1,H2⟩:=H2 h1
  refine hX.go [f_ (bne_eq_false_iff_eq.2 h1),c_ [] h2] ?_
  by_cases h3:r9=0
  ·obtain⟨h4,r10,h5,H1,H2⟩:=H1 h3
   refine hX.go [t_ (beq_iff_eq.2 h3),t_ (beq_iff_eq.2 h3),t_ (beq_iff_eq.2 h3),t_ (beq_iff_eq.2 h3),q_ h4,q_ (show(0:Int)<2 from by decide),t_ (beq_iff_eq.2 h3),t_ (beq_iff_eq.2 h3),c_ [] h5,t_ (beq_iff_eq.2 h3)] ?_
   rcases aq r10 with h6|h6
   ·obtain⟨h7,h8,r11,r12,h9,r13,r14,h10,rfl⟩:=H1 h6
    exact hX.e [t_ h6,q_ h7,q_ h8,c_ [] h9,c_ [] h10]
   ·obtain rfl:=H2 h6
    exact hX.e [f_ h6]
  ·obtain rfl:=H2 h3
   exact hX.e [f_ (beq_eq_false_iff_ne.2 h3),f_ (beq_eq_false_iff_ne.2 h3),f_ (beq_eq_false_iff_ne.2 h3),f_ (beq_eq_false_iff_ne.2 h3),f_ (beq_eq_false_iff_ne.2 h3),f_ (beq_eq_false_iff_ne.2 h3),f_ (beq_eq_false_iff_ne.2 h3),f_ rf]
 ·obtain rfl:=H1 h1
  exact hX.e [t_ (bne_iff_ne.2 h1)]
theorem F8 (x d:Nat):x/d≤pB x d:=by unfold pB;split<;>omega
theorem Gm {x d:Nat} (hd:d≠0) (hd2:d<18446744073709551616) (hx:x<340282366920938463463374607431768211456):S 203 [dR x,N .u64 (d:Int)] [] (IT (tl (pB x d))) []:=by
 have hm:=Nat.mod_lt x (Nat.pos_of_ne_zero hd)
 have hg:=F8 x d
 have t:=vv (x/d)
 refine wx ⟨_,_,_,_,CN hd hd2 hx,fun c=>absurd rfl c,fun _=>⟨_,_,t,fun c=> ?_,fun c=> ?_⟩⟩
 ·have h: ¬x/d>4611686018427387904:=fun h=>by unfold tl at c;rw[if_pos h]at c;exact absurd c (by decide)
  have e:tl (x/d)=(((x/d:Nat):Int),0):=by unfold tl;rw[if_neg h]
  rw[e]
  show(0:Int)≤((x/d:Nat):Int)∧_
  refine⟨Int.natCast_nonneg _,_,JE (Nat.le_of_lt hm) hd2,fun u=> ?_,fun u=> ?_⟩
  ·have u':=of_decide_eq_true u
   rw[beq_iff_eq]at u'
   have en:pB x d=x/d+1:=by
    grind [pB]
   rw[en]
   have h2:=vv (x/d+1)
   generalize x/d=q at*
   have h1:=qC (x:=q+1) (by omega)
   exact⟨by simp only[jn,aj];omega,by simp only[jn,aj];omega,_,_,h1,_,_,h2,rfl⟩
  grind [pB]
 grind [tl]
theorem wv {a1 a2 a3 a4 a5:Int} {res:SV} (H:(a1<0→(SV.af [I 0,I 1])=res)∧(¬a1<0→(a2<0→(SV.af [I 0,I 1])=res)∧(¬a2<0→(a5<1→(SV.af [I 0,I 1])=res)∧(¬a5<1→jn a1∧jn a2∧ ∃ r6 r7:Int,S 202 [N .u64 a1,N .u64 a2] [] (.agg [N .u64 r6,N .u64 r7]) []∧jn a3∧ ∃ r8 r9 r10:Int,S 201 [.agg [N .u64 r6,N .u64 r7],N .u64 a3] [] (.af [.agg [N .u64 r8,N .u64 r9],I r10]) []∧jn a5∧jn a4∧ ∃ r11 r12:Int,S 202 [N .u64 a5,N .u64 a4] [] (.agg [N .u64 r11,N .u64 r12]) []∧(r10≠0→(SV.af [I 0,I 6])=res)∧(r10=0→(r11≠0→(SV.af [I 0,I 6])=res)∧(r11=0→ ∃ r13 r14:Int,S 203 [.agg [N .u64 r8,N .u64 r9],N .u64 r12] [] (.af [I r13,I r14]) []∧(SV.af [I r13,I r14])=res)))))):
  S 157 [I a1,I a2, .agg [I a3,I a4],I a5] [] res []:=by
 refine ab.st fun X hX=> ?_
 obtain⟨H1,H2⟩:=H
 by_cases h0:a1<0
 ·obtain rfl:=H1 h0
  exact hX.e [t_ (dt h0),t_ (dt h0),t_ (dt h0),t_ rt,t_ rt,t_ rt,t_ rt]
 ·obtain⟨H1,H2⟩:=H2 h0
  refine hX.go [f_ (df h0),f_ (df h0),f_ (df h0)] ?_
  by_cases h1:a2<0
  ·obtain rfl:=H1 h1
   exact hX.e [t_ (dt h1),t_ (dt h1),t_ (dt h1),t_ rt]
  ·obtain⟨H1,H2⟩:=H2 h1
   refine hX.go [f_ (df h1),f_ (df h1),f_ (df h1)] ?_
   by_cases h2:a5<1
   ·obtain rfl:=H1 h2
    exact hX.e [t_ (dt h2)]
   ·obtain⟨h3,h4,r6,r7,h5,h6,r8,r9,r10,h7,h8,h9,r11,r12,h10,H1,H2⟩:=H2 h2
    refine hX.go [f_ (df h2),q_ h3,q_ h4,h_ [.draw 13 [11] 1],c_ [] h5,q_ h6,c_ [] h7,q_ (re (I r10)),q_ (re (I r10)),q_ h8,q_ h9,c_ [] h10] ?_
    by_cases h11:r10=0
    ·obtain⟨H1,H2⟩:=H2 h11
     refine hX.go [f_ (bne_eq_false_iff_eq.2 h11),f_ (bne_eq_false_iff_eq.2 h11),f_ (bne_eq_false_iff_eq.2 h11),f_ (bne_eq_false_iff_eq.2 h11)] ?_
     by_cases h12:r11=0
     ·obtain⟨r13,r14,h13,rfl⟩:=H2 h12
      exact hX.e [f_ (bne_eq_false_iff_eq.2 h12),c_ [] h13]
     ·obtain rfl:=H1 h12
      exact hX.e [t_ (bne_iff_ne.2 h12)]
    ·obtain rfl:=H1 h11
     exact hX.e [t_ (bne_iff_ne.2 h11),t_ (bne_iff_ne.2 h11),t_ (bne_iff_ne.2 h11),t_ (bne_iff_ne.2 h11),t_ rt]
theorem IA {n d:Int} (a b per:Int) (hn:0≤n) (hn2:n<9223372036854775808) (hd:1≤d) (hd2:d<9223372036854775808) (ha:a<9223372036854775808) (hb:b<9223372036854775808) (hp:per<9223372036854775808):
  S 157 [I a,I b, .agg [I n,I d],I per] [] (IT (y4 a b n d per)) []:=by
 refine wv ⟨fun c=> ?_,fun c1=>⟨fun c=> ?_,fun c2=>⟨fun c=> ?_,fun c3=> ?_⟩⟩⟩
 ·unfold y4;rw[if_pos (.inl c)]
 ·grind [y4]
 ·grind [y4]
 ·have hr:y4 a b n d per=if 340282366920938463463374607431768211456≤a.toNat*b.toNat*n.toNat∨18446744073709551616≤per.toNat*d.toNat then(0,6)else tl (pB (a.toNat*b.toNat*n.toNat) (per.toNat*d.toNat)):=by
   unfold y4;rw[if_neg (by omega)]
  rw[hr]
  clear hr
  obtain⟨a,rfl⟩: ∃ m:Nat,a=(m:Int):=⟨a.toNat,by omega⟩
  obtain⟨b,rfl⟩: ∃ m:Nat,b=(m:Int):=⟨b.toNat,by omega⟩
  obtain⟨n,rfl⟩: ∃ m:Nat,n=(m:Int):=⟨n.toNat,by omega⟩
  obtain⟨d,rfl⟩: ∃ m:Nat,d=(m:Int):=⟨d.toNat,by omega⟩
  obtain⟨per,rfl⟩: ∃ m:Nat,per=(m:Int):=⟨per.toNat,by omega⟩
  simp only[Int.toNat_natCast]
  have hab:a*b≤9223372036854775807*9223372036854775807:=Nat.mul_le_mul (by omega) (by omega)
  have hpd:per*d≤9223372036854775807*9223372036854775807:=Nat.mul_le_mul (by omega) (by omega)
  have hpd0:per*d≠0:=Nat.mul_ne_zero (by omega) (by omega)
  have ht:=AJ (x:=a*b) (n:=n) (by omega) (by omega)
  by_cases h:a*b*n<340282366920938463463374607431768211456
  ·rw[if_pos h]at ht
   refine⟨by simp only[jn,aj];omega,by simp only[jn,aj];omega,_,_,eT (by omega) (by omega),by simp only[jn,aj];omega,_,_,_,ht,by simp only[jn,aj];omega,by simp only[jn,aj];omega,_,_,eT (by omega) (by omega),fun c=>absurd rfl c,fun _=>⟨fun c=> ?_,fun c=> ?_⟩⟩
   ·rw[if_pos (.inr (by omega))]
   ·have hlt:per*d<18446744073709551616:=by omega
    rw[if_neg (by omega)]
    have:=Gm hpd0 hlt h
    grind
  ·rw[if_neg h]at ht
   refine⟨by simp only[jn,aj];omega,by simp only[jn,aj];omega,_,_,eT (by omega) (by omega),by simp only[jn,aj];omega,_,_,_,ht,by simp only[jn,aj];omega,by simp only[jn,aj];omega,_,_,eT (by omega) (by omega),fun c=> ?_,fun c=>absurd c (by decide)⟩
   rw[if_pos (.inl (by omega))]
theorem kj {res:SV} {new:List (Option Vw)} (H: ∃ n1:Nat, ∃ g2:Nat→Int,S 66 [N .u64 4294967296] [] (.agg [.sl 0 n1]) [ro n1 g2]∧ ∃ n3:Nat, ∃ g4:Nat→Int,S 41 [.agg [.sl 0 n1], .agg [.sl 0 n1]] [ri n1 g2] (.agg [.sl 1 n3]) [ro n3 g4]∧ ∃ n5:Nat, ∃ g6:Nat→Int,S 41 [.agg [.sl 0 n1], .agg [.sl 0 n1]] [ri n1 g2] (.agg [.sl 1 n5]) [ro n5 g6]∧ ∃ n7:Nat, ∃ g8:Nat→Int,S 41 [.agg [.sl 0 n3], .agg [.sl 1 n5]] [ri n3 g4,ri n5 g6] (.agg [.sl 2 n7]) [ro n7 g8]∧((SV.agg [.sl 0 n7])=res∧aG [ro n7 g8] new)):
  S 159 [] [] res new:=by
 refine ab.st fun X hX=> ?_
 obtain⟨n1,g2,h0,n3,g4,h1,n5,g6,h2,n7,g8,h3,rfl,H⟩:=H
 exact(av.same hX H).e [c_ [] h0,d_ 5,c_ [1] h1,c_ [1] h2,c_ [3,4] h3] [5]
theorem rl {b:Nat} (hlb:ln b≤1000):S 41 [.agg [.sl 0 (ln b)], .agg [.sl 0 (ln b)]] [BR false b] (.agg [.sl 1 (ln (b*b))]) [BR true (b*b)]:=
 ab.dup (Prod hlb hlb) rfl (fun i=>rfl) ⟨fun i=>rfl,trivial⟩ rfl rfl
theorem CK {b:Nat} (hlb:ln b≤10000):S 155 [.agg [.sl 0 (ln b)], .agg [.sl 0 (ln b)]] [BR false b] (.agg [.sl 1 (ln (b+b))]) [BR true (b+b)]:=
 ab.dup (Ju hlb hlb) rfl (fun i=>rfl) ⟨fun i=>rfl,trivial⟩ rfl rfl
theorem KM:S 159 [] [] (.agg [.sl 0 (ln 340282366920938463463374607431768211456)]) [BR true 340282366920938463463374607431768211456]:=by
 have l1:ln 4294967296≤1000:=Nat.le_trans (Fp (by decide)) (by decide)
 have l2:ln (4294967296*4294967296)≤1000:=Nat.le_trans (Fp (by decide)) (by decide)
 have p:=Prod l2 l2
 rw[show 4294967296*4294967296*(4294967296*4294967296)=340282366920938463463374607431768211456 by decide]at p
 exact kj ⟨_,_,yX (v:=4294967296) (by decide),_,_,rl l1,_,_,rl l1,_,_,p,rfl,aG.refl _⟩
noncomputable def cu (n1:Nat) (g2:Nat→Int) (x1:Int) (x2:Int):SC:=
 ⟨[⟨160,bJ 27 [(1, .ptr 1 0),(4,I x1),(5,I x2)],[.code (aa Tryz.f160 [1,1,1,0,1,0,0]), .inLoop (aa Tryz.f160 [1,1,1,0,1,0,0]), .inBlock 0, .code (aa Tryz.f160 [1,1,1,1])],{}⟩],[ri n1 g2,some (.box true [.sl 0 n1])]⟩
theorem kd {X:Cx} {n1:Nat} {g2:Nat→Int} {res:SV} (hX:Fi X 160 [ri n1 g2] res []) (H: ∃ n3:Nat, ∃ g4:Nat→Int,S 66 [N .u64 4611686018427387904] [] (.agg [.sl 0 n3]) [ro n3 g4]∧ ∃ r5:Int,S 43 [.agg [.sl 0 n1], .agg [.sl 1 n3]] [ri n1 g2,ri n3 g4] (I r5) []∧(r5>0→(SV.af [I 0,I 6])=res)∧(¬r5>0→Ir (((n1:Nat):Int)-1)∧Ok X (cu n1 g2 0 (((n1:Nat):Int)-1)))):
  Ok X (entry Tryz.prog 160 [.agg [.sl 0 n1]] [ri n1 g2]):=by
 obtain⟨n3,g4,h0,r5,h1,H1,H2⟩:=H
 refine hX.go [d_ 2,c_ [] h0,c_ [0,2] h1] ?_
 by_cases h2:r5>0
 ·obtain rfl:=H1 h2
  exact hX.e [t_ (dt h2)]
 ·obtain⟨h3,k⟩:=H2 h2
  exact hX.h 17 [f_ (df h2),q_ h3] (aA 2) k
theorem eQ {X:Cx} {n1:Nat} {g2:Nat→Int} {x1 x2:Int} {res:SV} (hX:Fi X 160 [ri n1 g2] res []) (H:(x2≥0→Ir (10000*x1)∧((0:Int)≤x2∧x2<((n1:Nat):Int))∧Ir ((10000*x1)+(g2 x2.toNat))∧Ir (x2-1)∧Ok X (cu n1 g2 ((10000*x1)+(g2 x2.toNat)) (x2-1)))∧(¬x2≥0→(SV.af [I x1,I 0])=res)):
  Ok X (cu n1 g2 x1 x2):=by
 obtain⟨H1,H2⟩:=H
 by_cases h0:x2≥0
 ·obtain⟨h1,h2,h3,h4,k⟩:=H1 h0
  exact hX.h 28 [t_ (dt h0),q_ h1,q_ h2,q_ (re n1),q_ h2,q_ h3,q_ h4] (aA 2) k
 ·obtain rfl:=H2 h0
  exact hX.e [f_ (df h0)]
theorem sR {X:Cx} {a:Nat} (ha:a<9223372036854775808) (hX:av X Tryz.prog GL 160 [BR false a] (.af [I (a:Int),I 0]) []):
  ∀ (i:Nat),i≤ln a→Ok X (cu (ln a) (dg a) ((a/10000^i:Nat):Int) ((i:Int)-1))
 |0,hi=>by
  grind [eQ]
 |j+1,hi=>by
  have hl:ln a≤5:=bc.2 (by omega)
  have e:(((j+1:Nat):Int)-1)=(j:Int):=by omega
  have h1:10000*(((a/10000^(j+1):Nat):Int))+dg a j=((a/10000^j:Nat):Int):=by
   unfold dg cC;rw[←mZ];omega
  have h2:a/10000^j≤a:=Nat.div_le_self _ _
  have h3:=BK a j
  rw[e]
  generalize a/10000^(j+1)=p at*
  have hq:a/10000^j<9223372036854775808:=by omega
  have ih:=sR ha hX j (by omega)
  generalize a/10000^j=q at*
  refine eQ hX ⟨fun _=>⟨by simp only[Ir,aj];omega,by omega, ?_,by simp only[Ir,aj];omega, ?_⟩,fun c=>by omega⟩
  ·rw[show(j:Int).toNat=j from rfl,h1];simp only[Ir,aj];omega
  simp_all
theorem JG {v:Nat} (hl:ln v≤1000):S 160 [.agg [.sl 0 (ln v)]] [BR false v] (IT (tl v)) []:=by
 refine ab.of (by kernel_rfl) rfl ⟨fun i=>rfl,trivial⟩ rfl (fun X hX=> ?_)
 refine kd hX ⟨_,_,yX (v:=4611686018427387904) (by decide),_,HH (by omega) (Nat.le_trans (Fp (by decide)) (by decide)),fun c=> ?_,fun c=> ?_⟩
 ·unfold tl;rw[if_pos (fo.1 c)]
 ·have h: ¬v>4611686018427387904:=fun h=>c (fo.2 h)
  rw[show tl v=((v:Int),0)by unfold tl;rw[if_neg h]]at hX
  have:=sR (by omega) hX (ln v) (Nat.le_refl _)
  rw[Nat.div_eq_of_lt (kB v)]at this
  exact⟨by simp only[Ir,aj];omega,this⟩
theorem lj {n1:Nat} {g2:Nat→Int} {n3:Nat} {g4:Nat→Int} {res:SV} {new:List (Option Vw)} (H: ∃ n5:Nat, ∃ g6:Nat→Int, ∃ n7:Nat, ∃ g8:Nat→Int,S 198 [.agg [.sl 0 n1], .agg [.sl 1 n3]] [ri n1 g2,ri n3 g4] (.af [.agg [.sl 2 n5], .agg [.sl 3 n7]]) [ro n5 g6,ro n7 g8]∧ ∃ n9:Nat, ∃ g10:Nat→Int,S 155 [.agg [.sl 0 n7], .agg [.sl 0 n7]] [ri n7 g8] (.agg [.sl 1 n9]) [ro n9 g10]∧ ∃ r11:Int,S 43 [.agg [.sl 0 n9], .agg [.sl 1 n3]] [ri n9 g10,ri n3 g4] (I r11) []∧(((n5:Nat):Int)>0→((0:Int)≤0∧0<((n5:Nat):Int))∧(0:Int)≤(g6 0)∧(r11>0→ ∃ n12:Nat, ∃ g13:Nat→Int,S 42 [I 1] [] (.agg [.sl 0 n12]) [ro n12 g13]∧ ∃ n14:Nat, ∃ g15:Nat→Int,S 155 [.agg [.sl 0 n5], .agg [.sl 1 n12]] [ri n5 g6,ri n12 g13] (.agg [.sl 2 n14]) [ro n14 g15]∧((SV.agg [.sl 2 n14])=res∧aG [ro n14 g15] new))∧(¬r11>0→(r11=0→(((g6 0)%2)=1→ ∃ n12:Nat, ∃ g13:Nat→Int,S 42 [I 1] [] (.agg [.sl 0 n12]) [ro n12 g13]∧ ∃ n14:Nat, ∃ g15:Nat→Int,S 155 [.agg [.sl 0 n5], .agg [.sl 1 n12]] [ri n5 g6,ri n12 g13] (.agg [.sl 2 n14]) [ro n14 g15]∧((SV.agg [.sl 2 n14])=res∧aG [ro n14 g15] new))∧(((g6 0)%2)≠1→((SV.agg [.sl 2 n5])=res∧aG [ro n5 g6] new)))∧(r11≠0→((SV.agg [.sl 2 n5])=res∧aG [ro n5 g6] new))))∧(¬((n5:Nat):Int)>0→(r11>0→ ∃ n12:Nat, ∃ g13:Nat→Int,S 42 [I 1] [] (.agg [.sl 0 n12]) [ro n12 g13]∧ ∃ n14:Nat, ∃ g15:Nat→Int,S 155 [.agg [.sl 0 n5], .agg [.sl 1 n12]] [ri n5 g6,ri n12 g13] (.agg [.sl 2 n14]) [ro n14 g15]∧((SV.agg [.sl 2 n14])=res∧aG [ro n14 g15] new))∧(¬r11>0→(r11=0→((SV.agg [.sl 2 n5])=res∧aG [ro n5 g6] new))∧(r11≠0→((SV.agg [.sl 2 n5])=res∧aG [ro n5 g6] new))))):
  S 161 [.agg [.sl 0 n1], .agg [.sl 1 n3]] [ri n1 g2,ri n3 g4] res new:=by
 refine ab.st fun X hX=> ?_
 obtain⟨n5,g6,n7,g8,h0,n9,g10,h1,r11,h2,H1,H2⟩:=H
 refine hX.go [c_ [0,1] h0,d_ 4,c_ [6] h1,c_ [9,1] h2] ?_
 by_cases h3:((n5:Nat):Int)>0
 ·obtain⟨h4,h5,H1,H2⟩:=H1 h3
  refine hX.go [t_ (dt h3),t_ (dt h3),t_ (dt h3),q_ h4,q_ (re n5),t_ (dt h3),q_ h4,t_ (dt h3),q_ h5,q_ (show(0:Int)<2 from by decide),t_ (dt h3),t_ (dt h3)] ?_
  by_cases h6:r11>0
  ·obtain⟨n12,g13,h7,n14,g15,h8,rfl,H⟩:=H1 h6
   exact(av.same hX H).e [t_ (dt h6),t_ (dt h6),t_ (dt h6),t_ (dt h6),t_ (dt h6),t_ rt,d_ 2,c_ [] h7,c_ [5,10] h8] [11]
  ·obtain⟨H1,H2⟩:=H2 h6
   refine hX.go [f_ (df h6),f_ (df h6),f_ (df h6)] ?_
   by_cases h7:r11=0
   ·obtain⟨H1,H2⟩:=H1 h7
    refine hX.go [t_ (beq_iff_eq.2 h7),f_ (df h6),t_ (beq_iff_eq.2 h7),f_ (df h6)] ?_
    by_cases h8:((g6 0)%2)=1
    ·obtain⟨n12,g13,h9,n14,g15,h10,rfl,H⟩:=H1 h8
     exact(av.same hX H).e [t_ (beq_iff_eq.2 h8),d_ 2,c_ [] h9,c_ [5,10] h10] [11]
    ·obtain⟨rfl,H⟩:=H2 h8
     exact(av.same hX H).e [f_ (beq_eq_false_iff_ne.2 h8)] [5]
   ·obtain⟨rfl,H⟩:=H2 h7
    exact(av.same hX H).e [f_ (beq_eq_false_iff_ne.2 h7),f_ (df h6),f_ (beq_eq_false_iff_ne.2 h7),f_ (df h6),f_ rf] [5]
 ·obtain⟨H1,H2⟩:=H2 h3
  refine hX.go [f_ (df h3),f_ (df h3),f_ (df h3),f_ (df h3),f_ (df h3),f_ (df h3),f_ (df h3)] ?_
  by_cases h4:r11>0
  ·obtain⟨n12,g13,h5,n14,g15,h6,rfl,H⟩:=H1 h4
   exact(av.same hX H).e [t_ (dt h4),t_ (dt h4),t_ (dt h4),t_ (dt h4),t_ (dt h4),t_ rt,d_ 2,c_ [] h5,c_ [5,10] h6] [11]
  ·obtain⟨H1,H2⟩:=H2 h4
   refine hX.go [f_ (df h4),f_ (df h4),f_ (df h4)] ?_
   by_cases h5:r11=0
   ·obtain⟨rfl,H⟩:=H1 h5
    exact(av.same hX H).e [t_ (beq_iff_eq.2 h5),f_ (df h4),t_ (beq_iff_eq.2 h5),f_ (df h4),f_ rf] [5]
   ·obtain⟨rfl,H⟩:=H2 h5
    exact(av.same hX H).e [f_ (beq_eq_false_iff_ne.2 h5),f_ (df h4),f_ (beq_eq_false_iff_ne.2 h5),f_ (df h4),f_ rf] [5]
theorem EC (q:Nat):dg q 0%2=1↔q%2=1:=by unfold dg cC;rw[Nat.pow_zero,Nat.div_one];omega
theorem J_ {n d:Nat} (hd:d≠0) (hn:ln n≤400) (hdl:ln d≤400):S 161 [.agg [.sl 0 (ln n)], .agg [.sl 1 (ln d)]] [BR false n,BR false d] (.agg [.sl 2 (ln (pB n d))]) [BR true (pB n d)]:=by
 have hq:ln (n/d)≤400:=Nat.le_trans (ed (Nat.div_le_self n d)) hn
 have hr:ln (n%d)≤400:=Nat.le_trans (ed (Nat.mod_le n d)) hn
 have hs:ln (n%d+n%d)≤10000:=by have:=zN (n%d) (n%d);omega
 have one:ln 1≤5:=Fp (by decide)
 have p1:=Ju (a:=n/d) (b:=1) (by omega) (by omega)
 have f1:=pT (v:=1) (by decide)
 have hup:(2*(n%d)>d∨2*(n%d)=d∧n/d%2=1)→pB n d=n/d+1:=fun h=>if_pos h
 have hdn: ¬(2*(n%d)>d∨2*(n%d)=d∧n/d%2=1)→pB n d=n/d:=fun h=>if_neg h
 refine lj ⟨_,_,_,_,Quot hd (by omega) (by omega),_,_,CK (by omega),_,HH hs (by omega),fun c=>⟨by omega,BK _ _,fun c1=> ?_,fun c1=>⟨fun c2=>⟨fun c3=> ?_,fun c3=> ?_⟩,fun c2=> ?_⟩⟩,fun c=>⟨fun c1=> ?_,fun c1=>⟨fun c2=> ?_,fun c2=> ?_⟩⟩⟩
 ·rw[hup (.inl (by have:=fo.1 c1;omega))]
  exact⟨_,_,f1,_,_,p1,rfl,aG.refl _⟩
 ·rw[hup (.inr ⟨by have:=An.1 c2;omega,(EC _).1 c3⟩)]
  exact⟨_,_,f1,_,_,p1,rfl,aG.refl _⟩
 ·rw[hdn (by
   rintro (z|z)
   ·exact c1 (fo.2 (by omega))
   ·exact c3 ((EC _).2 z.2))]
  exact⟨rfl,aG.refl _⟩
 ·rw[hdn (by
   rintro (z|z)
   ·exact c1 (fo.2 (by omega))
   ·exact c2 (An.2 (by omega)))]
  exact⟨rfl,aG.refl _⟩
 ·rw[hup (.inl (by have:=fo.1 c1;omega))]
  exact⟨_,_,f1,_,_,p1,rfl,aG.refl _⟩
 ·have h0:n/d=0:=yr.1 (by omega)
  rw[hdn (by
   rintro (z|z)
   ·exact c1 (fo.2 (by omega))
   ·rw[h0]at z;exact absurd z.2 (by decide))]
  exact⟨rfl,aG.refl _⟩
 ·rw[hdn (by
   rintro (z|z)
   ·exact c1 (fo.2 (by omega))
   ·exact c2 (An.2 (by omega)))]
  exact⟨rfl,aG.refl _⟩
theorem lh {a1 a2 a3 a4 a5:Int} {res:SV} (H:(a1<0→(SV.af [I 0,I 1])=res)∧(¬a1<0→(a2<0→(SV.af [I 0,I 1])=res)∧(¬a2<0→(a5<1→(SV.af [I 0,I 1])=res)∧(¬a5<1→ ∃ n6:Nat, ∃ g7:Nat→Int,S 42 [I a1] [] (.agg [.sl 0 n6]) [ro n6 g7]∧ ∃ n8:Nat, ∃ g9:Nat→Int,S 42 [I a2] [] (.agg [.sl 0 n8]) [ro n8 g9]∧ ∃ n10:Nat, ∃ g11:Nat→Int,S 41 [.agg [.sl 0 n6], .agg [.sl 1 n8]] [ri n6 g7,ri n8 g9] (.agg [.sl 2 n10]) [ro n10 g11]∧ ∃ n12:Nat, ∃ g13:Nat→Int,S 42 [I a3] [] (.agg [.sl 0 n12]) [ro n12 g13]∧ ∃ n14:Nat, ∃ g15:Nat→Int,S 41 [.agg [.sl 0 n10], .agg [.sl 1 n12]] [ri n10 g11,ri n12 g13] (.agg [.sl 2 n14]) [ro n14 g15]∧ ∃ n16:Nat, ∃ g17:Nat→Int,S 42 [I a5] [] (.agg [.sl 0 n16]) [ro n16 g17]∧ ∃ n18:Nat, ∃ g19:Nat→Int,S 42 [I a4] [] (.agg [.sl 0 n18]) [ro n18 g19]∧ ∃ n20:Nat, ∃ g21:Nat→Int,S 41 [.agg [.sl 0 n16], .agg [.sl 1 n18]] [ri n16 g17,ri n18 g19] (.agg [.sl 2 n20]) [ro n20 g21]∧ ∃ n22:Nat, ∃ g23:Nat→Int,S 66 [N .u64 4294967296] [] (.agg [.sl 0 n22]) [ro n22 g23]∧ ∃ n24:Nat, ∃ g25:Nat→Int,S 159 [] [] (.agg [.sl 0 n24]) [ro n24 g25]∧ ∃ r26:Int,S 43 [.agg [.sl 0 n14], .agg [.sl 1 n24]] [ri n14 g15,ri n24 g25] (I r26) []∧(r26≥0→(SV.af [I 0,I 6])=res)∧(¬r26≥0→ ∃ n27:Nat, ∃ g28:Nat→Int,S 41 [.agg [.sl 0 n22], .agg [.sl 0 n22]] [ri n22 g23] (.agg [.sl 1 n27]) [ro n27 g28]∧ ∃ r29:Int,S 43 [.agg [.sl 0 n20], .agg [.sl 1 n27]] [ri n20 g21,ri n27 g28] (I r29) []∧(r29≥0→(SV.af [I 0,I 6])=res)∧(¬r29≥0→ ∃ n30:Nat, ∃ g31:Nat→Int,S 161 [.agg [.sl 0 n14], .agg [.sl 1 n20]] [ri n14 g15,ri n20 g21] (.agg [.sl 2 n30]) [ro n30 g31]∧ ∃ r32 r33:Int,S 160 [.agg [.sl 0 n30]] [ri n30 g31] (.af [I r32,I r33]) []∧(SV.af [I r32,I r33])=res)))))):
  S 124 [I a1,I a2, .agg [I a3,I a4],I a5] [] res []:=by
 refine ab.st fun X hX=> ?_
 obtain⟨H1,H2⟩:=H
 by_cases h0:a1<0
 ·obtain rfl:=H1 h0
  exact hX.e [t_ (dt h0),t_ (dt h0),t_ (dt h0),t_ rt,t_ rt,t_ rt,t_ rt]
 ·obtain⟨H1,H2⟩:=H2 h0
  refine hX.go [f_ (df h0),f_ (df h0),f_ (df h0)] ?_
  by_cases h1:a2<0
  ·obtain rfl:=H1 h1
   exact hX.e [t_ (dt h1),t_ (dt h1),t_ (dt h1),t_ rt]
  ·obtain⟨H1,H2⟩:=H2 h1
   refine hX.go [f_ (df h1),f_ (df h1),f_ (df h1)] ?_
   by_cases h2:a5<1
   ·obtain rfl:=H1 h2
    exact hX.e [t_ (dt h2)]
   ·obtain⟨n6,g7,h3,n8,g9,h4,n10,g11,h5,n12,g13,h6,n14,g15,h7,n16,g17,h8,n18,g19,h9,n20,g21,h10,n22,g23,h11,n24,g25,h12,r26,h13,H1,H2⟩:=H2 h2
    refine hX.go [f_ (df h2),d_ 10,c_ [] h3,c_ [] h4,c_ [1,2] h5,c_ [] h6,c_ [3,4] h7,d_ 7,c_ [] h8,c_ [] h9,c_ [7,8] h10,c_ [] h11] ?_
    by_cases h14:r26≥0
    ·obtain rfl:=H1 h14
     exact hX.e [d_ 9,c_ [] h12,c_ [5,13] h13,t_ (dt h14),t_ (dt h14),t_ (dt h14),t_ (dt h14),t_ (dt h14),t_ (dt h14),t_ (dt h14),t_ rt]
    ·obtain⟨n27,g28,h15,r29,h16,H1,H2⟩:=H2 h14
     refine hX.go [d_ 9,c_ [] h12,c_ [5,13] h13,f_ (df h14),f_ (df h14),f_ (df h14),f_ (df h14),c_ [11] h15,f_ (df h14),c_ [9,14] h16,f_ (df h14),f_ (df h14)] ?_
     by_cases h17:r29≥0
     ·obtain rfl:=H1 h17
      exact hX.e [t_ (dt h17)]
     ·obtain⟨n30,g31,h18,r32,r33,h19,rfl⟩:=H2 h17
      exact hX.e [f_ (df h17),c_ [5,9] h18,c_ [15] h19]
theorem FW {n d:Int} (a b per:Int) (hn:0≤n) (hn2:n<9223372036854775808) (hd:1≤d) (hd2:d<9223372036854775808) (ha:a<9223372036854775808) (hb:b<9223372036854775808) (hp:per<9223372036854775808):
  S 124 [I a,I b, .agg [I n,I d],I per] [] (IT (y4 a b n d per)) []:=by
 refine lh ⟨fun c=> ?_,fun c1=>⟨fun c=> ?_,fun c2=>⟨fun c=> ?_,fun c3=> ?_⟩⟩⟩
 ·unfold y4;rw[if_pos (.inl c)]
 ·grind [y4]
 ·grind [y4]
 ·have hr:y4 a b n d per=if 340282366920938463463374607431768211456≤a.toNat*b.toNat*n.toNat∨18446744073709551616≤per.toNat*d.toNat then(0,6)else tl (pB (a.toNat*b.toNat*n.toNat) (per.toNat*d.toNat)):=by
   unfold y4;rw[if_neg (by omega)]
  rw[hr]
  clear hr
  obtain⟨a,rfl⟩: ∃ m:Nat,a=(m:Int):=⟨a.toNat,by omega⟩
  obtain⟨b,rfl⟩: ∃ m:Nat,b=(m:Int):=⟨b.toNat,by omega⟩
  obtain⟨n,rfl⟩: ∃ m:Nat,n=(m:Int):=⟨n.toNat,by omega⟩
  obtain⟨d,rfl⟩: ∃ m:Nat,d=(m:Int):=⟨d.toNat,by omega⟩
  obtain⟨per,rfl⟩: ∃ m:Nat,per=(m:Int):=⟨per.toNat,by omega⟩
  simp only[Int.toNat_natCast]
  have l: ∀ x:Nat,x<9223372036854775808→ln x≤5:=fun x hx=>Fp (by omega)
  have la:=l a (by omega);have lb:=l b (by omega);have lnn:=l n (by omega);have ld:=l d (by omega);have lp:=l per (by omega)
  have lab:=ia a b
  have labn:=ia (a*b) n
  have lpd:=ia per d
  have hpd0:per*d≠0:=Nat.mul_ne_zero (by omega) (by omega)
  have lH:ln 4294967296≤5:=Fp (by decide)
  have lL:ln 340282366920938463463374607431768211456≤10:=bc.2 (by decide)
  have lU:ln 18446744073709551616≤5:=Fp (by decide)
  have ph:S 41 [.agg [.sl 0 (ln 4294967296)], .agg [.sl 0 (ln 4294967296)]] [BR false 4294967296] (.agg [.sl 1 (ln 18446744073709551616)]) [BR true 18446744073709551616]:=rl (b:=4294967296) (by omega)
  refine⟨_,_,pT (by omega),_,_,pT (by omega),_,_,Prod (by omega) (by omega),_,_,pT (by omega),_,_,Prod (by omega) (by omega),_,_,pT (by omega),_,_,pT (by omega),_,_,Prod (by omega) (by omega),_,_,yX (v:=4294967296) (by decide),_,_,KM,_,HH (by omega) (by omega),fun c=> ?_,fun c=>⟨_,_,ph,_,HH (by omega) (by omega),fun e=> ?_,fun e=> ?_⟩⟩
  ·rw[if_pos (.inl (sB.1 c))]
  ·rw[if_pos (.inr (sB.1 e))]
  ·have h1: ¬340282366920938463463374607431768211456≤a*b*n:=fun h=>c (sB.2 h)
   have h2: ¬18446744073709551616≤per*d:=fun h=>e (sB.2 h)
   rw[if_neg (by rintro (z|z);exact h1 z;exact h2 z)]
   have hle:pB (a*b*n) (per*d)≤a*b*n+1:=by
    have:=Nat.div_le_self (a*b*n) (per*d)
    unfold pB;split<;>omega
   have:=zN (a*b*n) 1
   have l1:=l 1 (by decide)
   exact⟨_,_,J_ hpd0 (by omega) (by omega),_,_,JG (Nat.le_trans (ed hle) (by omega)),rfl⟩
end Go.Proofs.YtelidogcomffkaaGreatDoor
namespace Go.Proofs.YtelidogcomffkaaGreatDoor
open Go Go.Sx
variable [Env]
def dC (n d:Int):Bool:=decide (0≤n∧n≤4611686018427387904∧1≤d∧d≤4611686018427387904∧Nat.gcd n.toNat d.toNat=1)
theorem iB {a1 a2:Int} {res:SV} (H:(0:Int)≤a2∧(0:Int)<a1∧B ((a2%a1)==0)=res):
  S 158 [I a1,I a2] [] res []:=by
 refine ab.st fun X hX=> ?_
 obtain⟨h0,h1,rfl⟩:=H
 exact hX.e [q_ h0,q_ h1]
theorem Dq {a:Int} (h:0<a):S 158 [I a,I 1] [] (B (a==1)) []:=
 iB ⟨by decide,h,by
  rw[show((1%a)==0)=(a==1)by
   by_cases h1:a=1
   ·subst h1;rfl
   ·rw[beq_eq_false_iff_ne.2 h1,Int.emod_eq_of_lt (by decide) (by omega)];rfl]⟩
noncomputable def cn (x1:Int) (x2:Int):SC:=
 ⟨[⟨123,bJ 37 [(3,I x1),(4,I x2)],[.code (aa Tryz.f123 [1,1,1,1,0,0,0]), .inLoop (aa Tryz.f123 [1,1,1,1,0,0,0]), .inBlock 0, .code (aa Tryz.f123 [1,1,1,1,1])],{}⟩],[]⟩
theorem jk {X:Cx} {a1 a2:Int} {res:SV} (hX:Fi X 123 [] res []) (H:(a1<0→B false=res)∧(¬a1<0→(a1>4611686018427387904→B false=res)∧(¬a1>4611686018427387904→(a2<1→B false=res)∧(¬a2<1→(a2>4611686018427387904→B false=res)∧(¬a2>4611686018427387904→Ok X (cn a1 a2)))))):
  Ok X (entry Tryz.prog 123 [.agg [I a1,I a2]] []):=by
 obtain⟨H1,H2⟩:=H
 by_cases h0:a1<0
 ·obtain rfl:=H1 h0
  exact hX.e [t_ (dt h0),t_ (dt h0),t_ (dt h0),t_ (dt h0),t_ rt,t_ rt,t_ rt,t_ rt,t_ rt,t_ rt,t_ rt,t_ rt,t_ rt]
 ·obtain⟨H1,H2⟩:=H2 h0
  refine hX.go [f_ (df h0),f_ (df h0),f_ (df h0),f_ (df h0)] ?_
  by_cases h1:a1>4611686018427387904
  ·obtain rfl:=H1 h1
   exact hX.e [t_ (dt h1),t_ (dt h1),t_ (dt h1),t_ (dt h1),t_ rt,t_ rt,t_ rt,t_ rt,t_ rt]
  ·obtain⟨H1,H2⟩:=H2 h1
   refine hX.go [f_ (df h1),f_ (df h1),f_ (df h1),f_ (df h1)] ?_
   by_cases h2:a2<1
   ·obtain rfl:=H1 h2
    exact hX.e [t_ (dt h2),t_ (dt h2),t_ (dt h2),t_ (dt h2),t_ rt]
   ·obtain⟨H1,H2⟩:=H2 h2
    refine hX.go [f_ (df h2),f_ (df h2),f_ (df h2),f_ (df h2)] ?_
    by_cases h3:a2>4611686018427387904
    ·obtain rfl:=H1 h3
     exact hX.e [t_ (dt h3)]
    ·exact hX.h 17 [f_ (df h3)] (aA 0) (H2 h3)
theorem ey {X:Cx} {x1 x2:Int} {res:SV} (hX:Fi X 123 [] res []) (H:(x2>0→(0:Int)≤x1∧(0:Int)<x2∧Ok X (cn x2 (x1%x2)))∧(¬x2>0→ ∃ r5003:Bool,S 158 [I x1,I 1] [] (B r5003) []∧B r5003=res)):
  Ok X (cn x1 x2):=by
 obtain⟨H1,H2⟩:=H
 by_cases h0:x2>0
 ·obtain⟨h1,h2,k⟩:=H1 h0
  exact hX.h 27 [t_ (dt h0),q_ h1,q_ h2] (aA 0) k
 ·obtain⟨r5003,h1,rfl⟩:=H2 h0
  exact hX.e [f_ (df h0),c_ [] h1]
theorem xZ {X:Cx} {g:Nat} (hX:Fi X 123 [] (B (decide (g=1))) []): ∀ (m a b:Nat),b≤m→(0<a∨0<b)→Nat.gcd a b=g→Ok X (cn (a:Int) (b:Int)):=by
 intro m
 induction m with
 |zero=>
  intro a b hb hab hg
  have:b=0:=by omega
  subst this
  rw[Nat.gcd_zero_right]at hg
  subst hg
  refine ey hX ⟨fun c=>by omega,fun c=>⟨_,Dq (by omega), ?_⟩⟩
  rw[show((a:Int)==1)=decide (a=1)by
   by_cases h:a=1
   ·subst h;rfl
   ·rw[decide_eq_false h,beq_eq_false_iff_ne];omega]
 |succ m ih=>
  intro a b hb hab hg
  by_cases h0:b=0
  ·subst h0
   exact ih a 0 (by omega) hab hg
  ·refine ey hX ⟨fun c=>⟨by omega,by omega, ?_⟩,fun c=>by omega⟩
   have hlt:=Nat.mod_lt a (Nat.pos_of_ne_zero h0)
   have:=ih b (a%b) (by omega) (.inl (by omega)) (by rw[Nat.gcd_comm,←Nat.gcd_rec,Nat.gcd_comm];exact hg)
   rwa [Int.natCast_emod]at this
theorem Ix (n d:Int):S 123 [.agg [I n,I d]] [] (B (dC n d)) []:=by
 refine ab.of (by kernel_rfl) rfl trivial rfl (fun X hX=> ?_)
 have hf: ¬(0≤n∧n≤4611686018427387904∧1≤d∧d≤4611686018427387904)→dC n d=false:=fun h=>decide_eq_false fun q=>h ⟨q.1,q.2.1,q.2.2.1,q.2.2.2.1⟩
 refine jk hX ⟨fun h=>by rw[hf (by omega)],fun h1=>⟨fun h=>by rw[hf (by omega)],fun h2=>⟨fun h=>by rw[hf (by omega)],fun h3=>⟨fun h=>by rw[hf (by omega)],fun h4=> ?_⟩⟩⟩⟩
 rw[show dC n d=decide (Nat.gcd n.toNat d.toNat=1)by unfold dC;rw[decide_eq_decide];exact⟨fun h=>h.2.2.2.2,fun h=>⟨by omega,by omega,by omega,by omega,h⟩⟩]at hX
 have:=xZ hX d.toNat n.toNat d.toNat (Nat.le_refl _) (.inr (by omega)) rfl
 rwa [show((n.toNat:Nat):Int)=n by omega,show((d.toNat:Nat):Int)=d by omega]at this
theorem uS {a1 a2:Int} {res:SV} (H:(a1≥0→(a1≤4611686018427387904→(a2≥1→(a2≤4611686018427387904→jn a1∧jn a2∧ ∃ r3:Int,S 200 [N .u64 a1,N .u64 a2] [] (N .u64 r3) []∧B (r3==1)=res)∧(¬a2≤4611686018427387904→B false=res))∧(¬a2≥1→B false=res))∧(¬a1≤4611686018427387904→B false=res))∧(¬a1≥0→B false=res)):
  S 156 [.agg [I a1,I a2]] [] res []:=by
 refine ab.st fun X hX=> ?_
 obtain⟨H1,H2⟩:=H
 by_cases h0:a1≥0
 ·obtain⟨H1,H2⟩:=H1 h0
  refine hX.go [t_ (dt h0),t_ (dt h0),t_ (dt h0),t_ (dt h0)] ?_
  by_cases h1:a1≤4611686018427387904
  ·obtain⟨H1,H2⟩:=H1 h1
   refine hX.go [t_ (dt h1),t_ (dt h1),t_ (dt h1),t_ (dt h1)] ?_
   by_cases h2:a2≥1
   ·obtain⟨H1,H2⟩:=H1 h2
    refine hX.go [t_ (dt h2),t_ (dt h2),t_ (dt h2),t_ (dt h2)] ?_
    by_cases h3:a2≤4611686018427387904
    ·obtain⟨h4,h5,r3,h6,rfl⟩:=H1 h3
     exact hX.e [t_ (dt h3),t_ (dt h3),t_ (dt h3),q_ h4,t_ (dt h3),t_ (dt h3),t_ (dt h3),q_ h5,t_ (dt h3),c_ [] h6,t_ (dt h3),t_ (dt h3)]
    ·obtain rfl:=H2 h3
     exact hX.e [f_ (df h3),f_ (df h3),f_ (df h3),f_ (df h3),f_ (df h3),f_ (df h3),f_ (df h3),f_ (df h3),f_ (df h3)]
   ·obtain rfl:=H2 h2
    exact hX.e [f_ (df h2),f_ (df h2),f_ (df h2),f_ (df h2),f_ rf,f_ rf,f_ rf,f_ rf,f_ rf,f_ rf,f_ rf,f_ rf,f_ rf]
  ·obtain rfl:=H2 h1
   exact hX.e [f_ (df h1),f_ (df h1),f_ (df h1),f_ (df h1),f_ rf,f_ rf,f_ rf,f_ rf,f_ rf,f_ rf,f_ rf,f_ rf,f_ rf,f_ rf,f_ rf,f_ rf,f_ rf]
 ·obtain rfl:=H2 h0
  exact hX.e [f_ (df h0),f_ (df h0),f_ (df h0),f_ (df h0),f_ rf,f_ rf,f_ rf,f_ rf,f_ rf,f_ rf,f_ rf,f_ rf,f_ rf,f_ rf,f_ rf,f_ rf,f_ rf,f_ rf,f_ rf,f_ rf,f_ rf]
theorem Jl (n d:Int):S 156 [.agg [I n,I d]] [] (B (dC n d)) []:=by
 have hf: ¬(0≤n∧n≤4611686018427387904∧1≤d∧d≤4611686018427387904)→dC n d=false:=fun h=>decide_eq_false fun q=>h ⟨q.1,q.2.1,q.2.2.1,q.2.2.2.1⟩
 refine uS ⟨fun h1=>⟨fun h2=>⟨fun h3=>⟨fun h4=> ?_,fun h=>by rw[hf (by omega)]⟩,fun h=>by rw[hf (by omega)]⟩,fun h=>by rw[hf (by omega)]⟩,fun h=>by rw[hf (by omega)]⟩
 have hg:=FY n.toNat d.toNat
 rw[show((n.toNat:Nat):Int)=n by omega,show((d.toNat:Nat):Int)=d by omega]at hg
 refine⟨by simp only[aj];omega,by simp only[aj];omega,_,hg, ?_⟩
 rw[show(((Nat.gcd n.toNat d.toNat:Nat):Int)==1)=dC n d by
  unfold dC
  by_cases h:Nat.gcd n.toNat d.toNat=1
  ·rw[decide_eq_true ⟨h1,h2,h3,h4,h⟩,h];rfl
  ·rw[decide_eq_false (fun q=>h q.2.2.2.2),beq_eq_false_iff_ne];omega]
end Go.Proofs.YtelidogcomffkaaGreatDoor
