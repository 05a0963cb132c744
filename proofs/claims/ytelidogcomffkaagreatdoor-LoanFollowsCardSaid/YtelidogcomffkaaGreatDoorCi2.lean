import Derived.Test.YtelidogcomffkaaGreatDoorCiv
import Derived.Test.YtelidogcomffkaaGreatDoorProg
import Derived.KernelRfl
import Derived.Laws.Externs
set_option linter.unusedSectionVars false
set_option linter.unusedSimpArgs false
set_option linter.unusedVariables false
set_option maxRecDepth 100000
namespace Go.Proofs.YtelidogcomffkaaGreatDoor
open Go Go.Sx
variable [Env]
theorem civil_May_w {a1 a2 a3:Int} {res:SV} (H:(a1≥1→(a1≤9999→(a3≥1→(0:Int)≤a1∧B (decide (a3≤(len a1 a2)))=res)∧(¬a3≥1→B false=res))∧(¬a1≤9999→B false=res))∧(¬a1≥1→B false=res)):
  S 217 [.agg [I a1,I a2,I a3]] [] res []:=by
 refine SCall.st fun X hX=> ?_
 obtain⟨H1,H2⟩:=H
 by_cases h0:a1≥1
 ·obtain⟨H1,H2⟩:=H1 h0
  by_cases h1:a1≤9999
  ·obtain⟨H1,H2⟩:=H1 h1
   by_cases h2:a3≥1
   ·obtain⟨h3,rfl⟩:=H1 h2
    exact hX.e [d_ 21,t_ (dt h0),t_ (dt h0),t_ (dt h0),t_ (dt h0),t_ (dt h1),t_ (dt h1),t_ (dt h1),t_ (dt h1),t_ (dt h2),t_ (dt h2),t_ (dt h2),t_ (dt h2),t_ (dt h2),t_ (dt h2),t_ (dt h2),c_ [] (show S 88 [I a1,I a2] [] (I (len a1 a2)) []from cLength h3),t_ (dt h2),t_ (dt h2)]
   ·obtain rfl:=H2 h2
    exact hX.e [d_ 21,t_ (dt h0),t_ (dt h0),t_ (dt h0),t_ (dt h0),t_ (dt h1),t_ (dt h1),t_ (dt h1),t_ (dt h1),f_ (df h2),f_ (df h2),f_ (df h2),f_ (df h2),f_ (df h2),f_ (df h2),f_ (df h2),f_ (df h2),f_ (df h2)]
  ·obtain rfl:=H2 h1
   exact hX.e [d_ 21,t_ (dt h0),t_ (dt h0),t_ (dt h0),t_ (dt h0),f_ (df h1),f_ (df h1),f_ (df h1),f_ (df h1),f_ rf,f_ rf,f_ rf,f_ rf,f_ rf,f_ rf,f_ rf,f_ rf,f_ rf]
 ·obtain rfl:=H2 h0
  exact hX.e [d_ 21,f_ (df h0),f_ (df h0),f_ (df h0),f_ (df h0),f_ rf,f_ rf,f_ rf,f_ rf,f_ rf,f_ rf,f_ rf,f_ rf,f_ rf,f_ rf,f_ rf,f_ rf,f_ rf]
theorem cMayC (y m d:Int):SCall Tryz.prog GL 217 [.agg [I y,I m,I d]] [] (B (mayC y m d)) []:=by
 have hl:d≥1→d≤len y m→1≤m∧m≤12:=fun h1 h2=>by
  unfold len at h2
  split at h2<;>omega
 refine civil_May_w ⟨fun h1=>⟨fun h2=>⟨fun h3=>⟨by omega, ?_⟩,fun h3=> ?_⟩,fun h2=> ?_⟩,fun h1=> ?_⟩
 ·rw[show mayC y m d=decide (d≤len y m)by
   unfold mayC
   rw[decide_eq_decide]
   constructor
   ·intro h;omega
   ·intro h;have:=hl h3 h;omega]
 all_goals (rw[show mayC y m d=false by unfold mayC;rw[decide_eq_false_iff_not];omega])
theorem civil_Number_0 {a1 a2 a3:Int} {r4:Bool} (h0:S 217 [.agg [I a1,I a2,I a3]] [] (B r4) []) (h1:r4=false):
  S 180 [.agg [I a1,I a2,I a3]] [] (.tup [I 0,I 3]) []:=
 SCall.path 19 [.call [] (B r4) [],tb] [] 1 (by kernel_rfl) rfl (by exact trivial) (ca h0 (ca (nt h1) na))
noncomputable def civil_Number_h0 (x1:Int) (x2:Int) (x3:Int) (x4:Int) (x5:Int):SC:=
 ⟨[⟨180,slo 40 [(1, .ptr 0 0),(5,I x1),(6,I x2)],[.code (bodyAt Tryz.f180 [1,1,1,1,0,1,0,0]), .inLoop (bodyAt Tryz.f180 [1,1,1,1,0,1,0,0]), .inBlock 0, .code (bodyAt Tryz.f180 [1,1,1,1,1])],{}⟩],[some (.box true [I x3,I x4,I x5])]⟩
theorem civil_Number_1 {X:Cx} {res:SV} {new:List (Option Vw)} {a1 a2 a3:Int} {r4:Bool} (hX:Fi X 180 [] res new) (h0:S 217 [.agg [I a1,I a2,I a3]] [] (B r4) []) (h1:r4=true) (h2:Ir (a1-1)) (h3:Ir ((a1-1)*365)) (h4:(0:Int)≤(a1-1)) (h5:Ir ((a1-1)/4)) (h6:Ir (((a1-1)*365)+((a1-1)/4))) (h7:Ir ((a1-1)/100)) (h8:Ir ((((a1-1)*365)+((a1-1)/4))-((a1-1)/100))) (h9:Ir ((a1-1)/400)) (h10:Ir (((((a1-1)*365)+((a1-1)/4))-((a1-1)/100))+((a1-1)/400))) (h11:Ir ((((((a1-1)*365)+((a1-1)/4))-((a1-1)/100))+((a1-1)/400))+a3)) (k:Ok X (civil_Number_h0 ((((((a1-1)*365)+((a1-1)/4))-((a1-1)/100))+((a1-1)/400))+a3) 1 a1 a2 a3)):
  Ok X (entry Tryz.prog 180 [.agg [I a1,I a2,I a3]] []):=
 Ok.cutM 47 [.call [] (B r4) [],fb] [msk 40 [1,5,6]] [.old 0] 0 hX.P hX.gl hX.n0 (by kernel_rfl) (by kernel_rfl) (by exact⟨rfl,trivial⟩) (ca h0 (ca (nf h1) (ca h2 (ca h3 (ca h4 (ca (show(0:Int)<4 from by decide) (ca h5 (ca h6 (ca h4 (ca (show(0:Int)<100 from by decide) (ca h7 (ca h8 (ca h4 (ca (show(0:Int)<400 from by decide) (ca h9 (ca h10 (ca h11 na))))))))))))))))) k
theorem civil_Number_2 {X:Cx} {res:SV} {new:List (Option Vw)} {x1 x2 x3 x4 x5:Int} (hX:Fi X 180 [] res new) (h0:x2<x4) (h1:(0:Int)≤x3) (h2:Ir (x1+(len x3 x2))) (h3:Ir (x2+1)) (k:Ok X (civil_Number_h0 (x1+(len x3 x2)) (x2+1) x3 x4 x5)):
  Ok X (civil_Number_h0 x1 x2 x3 x4 x5):=
 Ok.cutM 28 [tb, .call [] (I (len x3 x2)) []] [msk 40 [1,5,6]] [.old 0] 0 hX.P hX.gl hX.n0 (by kernel_rfl) (by kernel_rfl) (by exact⟨rfl,trivial⟩) (ca (dt h0) (ca (show S 88 [I x3,I x2] [] (I (len x3 x2)) []from cLength h1) (ca h2 (ca h3 na)))) k
theorem civil_Number_3 {X:Cx} {x1 x2 x3 x4 x5:Int} (hX:Fi X 180 [] (.tup [I x1,I 0]) []) (h0: ¬x2<x4):
  Ok X (civil_Number_h0 x1 x2 x3 x4 x5):=
 Ok.fin 16 [fb] [] 1 hX (by kernel_rfl) rfl (ca (df h0) na)
theorem cNumber_loop {X:Cx} {y m d:Int} (hy:1≤y) (hy2:y≤9999) (hm:1≤m) (hm2:m≤12) (hd:1≤d) (hd2:d≤31) (hX:IsFin X Tryz.prog GL 180 [] (.tup [I (numb y m d),I 0]) []):
  ∀ (j k:Nat),(m-1-k:Int)=(j:Int)→Ok X (civil_Number_h0 (ahd y+d+mons y k) ((k:Int)+1) y m d)
 |0,k,hj=>by
  have e:k=(m-1).toNat:=by omega
  subst e
  exact civil_Number_3 hX (by omega)
 |j+1,k,hj=>by
  have ih:=cNumber_loop hy hy2 hm hm2 hd hd2 hX j (k+1) (by omega)
  have hb:0≤ahd y∧ahd y≤4000000:=by unfold ahd;omega
  have h1:=mons_le y k
  have h2:=len_le y ((k:Int)+1)
  refine civil_Number_2 hX (by omega) (by omega) (by simp only[InR];omega) (by simp only[InR];omega) ?_
  rw[show ahd y+d+mons y (k+1)=ahd y+d+mons y k+len y ((k:Int)+1)by
   show ahd y+d+(mons y k+len y ((k+1:Nat):Int))=_
   rw[show(((k+1:Nat)):Int)=(k:Int)+1 by omega];omega]at ih
  rw[show(((k+1:Nat)):Int)=(k:Int)+1 by omega]at ih
  exact ih
theorem cNumber {y m d:Int} (h:mayC y m d=true):SCall Tryz.prog GL 180 [.agg [I y,I m,I d]] [] (.tup [I (numb y m d),I 0]) []:=by
 have h':=h
 unfold mayC at h'
 rw[decide_eq_true_eq]at h'
 obtain⟨a1,a2,a3,a4,a5,a6⟩:=h'
 have h2:=len_le y m
 have hb:0≤ahd y∧ahd y≤4000000:=by unfold ahd;omega
 refine SCall.of (by kernel_rfl) rfl trivial rfl (fun X hX=> ?_)
 have:=cNumber_loop a1 a2 a3 a4 a5 (by omega) hX (m-1).toNat 0 (by omega)
 refine civil_Number_1 hX (cMayC y m d) h (by simp only[InR];omega) (by simp only[InR];omega) (by omega) (by simp only[InR];omega) (by simp only[InR];omega) (by simp only[InR];omega) (by simp only[InR];omega) (by simp only[InR];omega) (by simp only[InR];omega) (by simp only[InR];omega) ?_
 rw[show ahd y+d+mons y 0=((((((y-1)*365)+((y-1)/4))-((y-1)/100))+((y-1)/400))+d)by simp only[mons];unfold ahd;omega]at this
 exact this
theorem cNumber_bad {y m d:Int} (h:mayC y m d=false):SCall Tryz.prog GL 180 [.agg [I y,I m,I d]] [] (.tup [I 0,I 3]) []:=
 civil_Number_0 (cMayC y m d) h
theorem demurrageref04_Of_0 {a1:Int} (h0:a1<1):
  S 72 [I a1] [] (.tup [.agg [I 0,I 0,I 0],I 3]) []:=
 SCall.path 22 [tb,tb,tb,tb] [] 1 (by kernel_rfl) rfl (by exact trivial) (ca (dt h0) (ca (dt h0) (ca (dt h0) (ca rt na))))
theorem demurrageref04_Of_1 {a1:Int} (h0: ¬a1<1) (h1:a1>3652059):
  S 72 [I a1] [] (.tup [.agg [I 0,I 0,I 0],I 3]) []:=
 SCall.path 22 [fb,fb,fb,tb] [] 1 (by kernel_rfl) rfl (by exact trivial) (ca (df h0) (ca (df h0) (ca (df h0) (ca (dt h1) na))))
noncomputable def demurrageref04_Of_h0 (x1:Int) (x2:Int) (x3:Int) (x4:Int) (x5:Int) (x6:Int):SC:=
 ⟨[⟨72,slo 50 [(0,I x1),(2, .ptr 0 0),(4,I x2),(5,I x3)],[.code (bodyAt Tryz.f72 [1,1,1,1,0,0,0]), .inLoop (bodyAt Tryz.f72 [1,1,1,1,0,0,0]), .inBlock 0, .code (bodyAt Tryz.f72 [1,1,1,1,1])],{}⟩],[some (.box true [I x4,I x5,I x6])]⟩
theorem demurrageref04_Of_2 {X:Cx} {res:SV} {new:List (Option Vw)} {a1:Int} (hX:Fi X 72 [] res new) (h0: ¬a1<1) (h1: ¬a1>3652059) (k:Ok X (demurrageref04_Of_h0 a1 1 10000 0 0 0)):
  Ok X (entry Tryz.prog 72 [I a1] []):=
 Ok.cutM 28 [fb,fb,fb,fb] [msk 50 [0,2,4,5]] [.old 0] 0 hX.P hX.gl hX.n0 (by kernel_rfl) (by kernel_rfl) (by exact⟨rfl,trivial⟩) (ca (df h0) (ca (df h0) (ca (df h0) (ca (df h1) na)))) k
theorem demurrageref04_Of_3 {X:Cx} {res:SV} {new:List (Option Vw)} {x1 x2 x3 x4 x5 x6 r5007:Int} (hX:Fi X 72 [] res new) (h0:Ir (x3-x2)) (h1:(x3-x2)>1) (h2:Ir (x2+x3)) (h3:(0:Int)≤(x2+x3)) (h4:Ir ((x2+x3)/2)) (h5:S 98 [I ((x2+x3)/2)] [] (I r5007) []) (h6:r5007<x1) (k:Ok X (demurrageref04_Of_h0 x1 ((x2+x3)/2) x3 x4 x5 x6)):
  Ok X (demurrageref04_Of_h0 x1 x2 x3 x4 x5 x6):=
 Ok.cutM 33 [tb, .call [] (I r5007) [],tb] [msk 50 [0,2,4,5]] [.old 0] 0 hX.P hX.gl hX.n0 (by kernel_rfl) (by kernel_rfl) (by exact⟨rfl,trivial⟩) (ca h0 (ca (dt h1) (ca h2 (ca h3 (ca (show(0:Int)<2 from by decide) (ca h4 (ca h5 (ca (dt h6) na)))))))) k
theorem demurrageref04_Of_4 {X:Cx} {res:SV} {new:List (Option Vw)} {x1 x2 x3 x4 x5 x6 r5007:Int} (hX:Fi X 72 [] res new) (h0:Ir (x3-x2)) (h1:(x3-x2)>1) (h2:Ir (x2+x3)) (h3:(0:Int)≤(x2+x3)) (h4:Ir ((x2+x3)/2)) (h5:S 98 [I ((x2+x3)/2)] [] (I r5007) []) (h6: ¬r5007<x1) (k:Ok X (demurrageref04_Of_h0 x1 x2 ((x2+x3)/2) x4 x5 x6)):
  Ok X (demurrageref04_Of_h0 x1 x2 x3 x4 x5 x6):=
 Ok.cutM 33 [tb, .call [] (I r5007) [],fb] [msk 50 [0,2,4,5]] [.old 0] 0 hX.P hX.gl hX.n0 (by kernel_rfl) (by kernel_rfl) (by exact⟨rfl,trivial⟩) (ca h0 (ca (dt h1) (ca h2 (ca h3 (ca (show(0:Int)<2 from by decide) (ca h4 (ca h5 (ca (df h6) na)))))))) k
noncomputable def demurrageref04_Of_h1 (x1:Int) (x2:Int) (x3:Int) (x4:Int) (x5:Int) (x6:Int):SC:=
 ⟨[⟨72,slo 50 [(2, .ptr 0 0),(4,I x1),(7,I x2),(8,I x3)],[.code (bodyAt Tryz.f72 [1,1,1,1,1,1,1,0,0,0]), .inLoop (bodyAt Tryz.f72 [1,1,1,1,1,1,1,0,0,0]), .inBlock 2, .code (bodyAt Tryz.f72 [1,1,1,1,1,1,1,1])],{}⟩],[some (.box true [I x4,I x5,I x6])]⟩
theorem demurrageref04_Of_5 {X:Cx} {res:SV} {new:List (Option Vw)} {x1 x2 x3 x4 x5 x6 r5007:Int} (hX:Fi X 72 [] res new) (h0:Ir (x3-x2)) (h1: ¬(x3-x2)>1) (h2:S 98 [I x2] [] (I r5007) []) (h3:Ir (x1-r5007)) (k:Ok X (demurrageref04_Of_h1 x2 (x1-r5007) 1 x4 x5 x6)):
  Ok X (demurrageref04_Of_h0 x1 x2 x3 x4 x5 x6):=
 Ok.cutM 25 [fb, .call [] (I r5007) []] [msk 50 [2,4,7,8]] [.old 0] 0 hX.P hX.gl hX.n0 (by kernel_rfl) (by kernel_rfl) (by exact⟨rfl,trivial⟩) (ca h0 (ca (df h1) (ca h2 (ca h3 na)))) k
theorem demurrageref04_Of_6 {X:Cx} {res:SV} {new:List (Option Vw)} {x1 x2 x3 x4 x5 x6:Int} (hX:Fi X 72 [] res new) (h0:(0:Int)≤x1) (h1:x2>(len x1 x3)) (h2:Ir (x2-(len x1 x3))) (h3:Ir (x3+1)) (k:Ok X (demurrageref04_Of_h1 x1 (x2-(len x1 x3)) (x3+1) x4 x5 x6)):
  Ok X (demurrageref04_Of_h1 x1 x2 x3 x4 x5 x6):=
 Ok.cutM 28 [.call [] (I (len x1 x3)) [],tb, .call [] (I (len x1 x3)) []] [msk 50 [2,4,7,8]] [.old 0] 0 hX.P hX.gl hX.n0 (by kernel_rfl) (by kernel_rfl) (by exact⟨rfl,trivial⟩) (ca (show S 74 [I x1,I x3] [] (I (len x1 x3)) []from rLength h0) (ca (dt h1) (ca (show S 74 [I x1,I x3] [] (I (len x1 x3)) []from rLength h0) (ca h2 (ca h3 na))))) k
theorem demurrageref04_Of_7 {X:Cx} {x1 x2 x3 x4 x5 x6:Int} (hX:Fi X 72 [] (.tup [.agg [I x1,I x3,I x2],I 0]) []) (h0:(0:Int)≤x1) (h1: ¬x2>(len x1 x3)):
  Ok X (demurrageref04_Of_h1 x1 x2 x3 x4 x5 x6):=
 Ok.fin 20 [.call [] (I (len x1 x3)) [],fb] [] 1 hX (by kernel_rfl) rfl (ca (show S 74 [I x1,I x3] [] (I (len x1 x3)) []from rLength h0) (ca (df h1) na))
theorem ahd_mono {a b:Int} (h:a≤b):ahd a≤ahd b:=by unfold ahd;omega
theorem yr_uniq {n y:Int} (h1:1≤n) (h2:n≤3652059) (a:ahd y<n) (b:n≤ahd (y+1)):(ofYr n).1=y∧(ofYr n).2=n-ahd y-1:=by
 obtain⟨c1,c2,c3,c4,c5⟩:=ofYr_ok h1 h2
 rw[mons12]at c4
 have e:=ahd_succ _ c1
 have:(ofYr n).1=y:=by
  rcases Int.lt_trichotomy (ofYr n).1 y with h|h|h
  ·have:=ahd_mono (a:=(ofYr n).1+1) (b:=y) (by omega);omega
  ·exact h
  ·have:=ahd_mono (a:=y+1) (b:=(ofYr n).1) (by omega);omega
 exact⟨this,by rw[←this];omega⟩
theorem rOf_mon {X:Cx} {y:Int} {x4 x5 x6:Int} (hy:0≤y): ∀ (j m:Nat) (r:Int),j+m=13→1≤m→0≤r→r<mons y 12-mons y (m-1)→
  IsFin X Tryz.prog GL 72 [] (.tup [.agg [I y,I (ofMon y j m r).1,I (ofMon y j m r).2],I 0]) []→Ok X (demurrageref04_Of_h1 y (r+1) (m:Int) x4 x5 x6)
 |0,m,r,hj,hm,hr,hl,hX=>by
  have:m=13:=by omega
  subst this;simp at hl;omega
 |j+1,m,r,hj,hm,hr,hl,hX=>by
  have e:mons y m=mons y (m-1)+len y (m:Int):=by
   obtain⟨k,rfl⟩: ∃ k,m=k+1:=⟨m-1,by omega⟩
   rfl
  have hle:=len_le y (m:Int)
  have h12:=mons_le y 12
  have h0:=(mons_le y (m-1)).2
  unfold ofMon at hX
  split at hX
  ·rename_i h
   refine demurrageref04_Of_6 hX hy (by omega) (by simp only[InR];omega) (by simp only[InR];omega) ?_
   have:=rOf_mon (x4:=x4) (x5:=x5) (x6:=x6) hy j (m+1) (r-len y (m:Int)) (by omega) (by omega) (by omega) (by simp only[Nat.add_sub_cancel];omega) hX
   rw[show r-len y (m:Int)+1=r+1-len y (m:Int)by omega]at this
   exact this
  ·rename_i h
   exact demurrageref04_Of_7 hX hy (by omega)
theorem rOf_yr {X:Cx} {n x4 x5 x6:Int} (h1:1≤n) (h2:n≤3652059) (hX:IsFin X Tryz.prog GL 72 [] (.tup [.agg [I (civOf n).1,I (civOf n).2.1,I (civOf n).2.2],I 0]) []):
  ∀ (m:Nat) (lo hi:Int),hi-lo≤(m:Int)→1≤lo→lo<hi→hi≤10000→ahd lo<n→n≤ahd hi→Ok X (demurrageref04_Of_h0 n lo hi x4 x5 x6):=by
 intro m
 induction m with
 |zero=>intro lo hi h3 h4 h5;omega
 |succ m ih=>
  intro lo hi h3 h4 h5 h6 h7 h8
  by_cases h:hi-lo>1
  ·have hm:1≤(lo+hi)/2∧(lo+hi)/2≤10000:=by omega
   by_cases hb:ahd ((lo+hi)/2)<n
   ·exact demurrageref04_Of_3 hX (by simp only[InR];omega) h (by simp only[InR];omega) (by omega) (by simp only[InR];omega) (rahead hm.1 hm.2) hb (ih _ _ (by omega) (by omega) (by omega) (by omega) hb h8)
   ·exact demurrageref04_Of_4 hX (by simp only[InR];omega) h (by simp only[InR];omega) (by omega) (by simp only[InR];omega) (rahead hm.1 hm.2) hb (ih _ _ (by omega) (by omega) (by omega) (by omega) h7 (by omega))
  ·have e:hi=lo+1:=by omega
   subst e
   obtain⟨e1,e2⟩:=yr_uniq h1 h2 h7 h8
   obtain⟨a1,a2,a3,a4,a5⟩:=ofYr_ok h1 h2
   have hb:0≤ahd lo∧ahd lo≤4000000:=by unfold ahd;omega
   refine demurrageref04_Of_5 hX (by simp only[InR];omega) h (rahead (by omega) (by omega)) (by simp only[InR];omega) ?_
   have:=rOf_mon (X:=X) (y:=lo) (x4:=x4) (x5:=x5) (x6:=x6) (by omega) 12 1 (n-ahd lo-1) rfl (by omega) (by omega) (by rw[e1]at a4;rw[←e2];simpa[mons]using a4) (by
    unfold civOf at hX
    rw[e1,e2]at hX
    exact hX)
   rw[show n-ahd lo-1+1=n-ahd lo by omega]at this
   exact this
def cY (n:Int):Int:=if isDay n=true then(civOf n).1 else 0
def cM (n:Int):Int:=if isDay n=true then(civOf n).2.1 else 0
def cD (n:Int):Int:=if isDay n=true then(civOf n).2.2 else 0
def cE (n:Int):Int:=if isDay n=true then 0 else 3
theorem isDay_iff {n:Int}:isDay n=true↔1≤n∧n≤3652059:=by unfold isDay;rw[decide_eq_true_eq]
theorem isDay_f {n:Int}:isDay n=false↔ ¬(1≤n∧n≤3652059):=by unfold isDay;rw[decide_eq_false_iff_not]
theorem cOfT (n:Int):SCall Tryz.prog GL 60 [I n] [] (.tup [.agg [I (cY n),I (cM n),I (cD n)],I (cE n)]) []:=by
 unfold cY cM cD cE
 by_cases h:isDay n=true
 ·simp only[h,if_true];rw[isDay_iff]at h;exact cOf h.1 h.2
 ·simp only[h];rw[isDay_iff]at h;exact cOf_bad h
theorem rOfT (n:Int):SCall Tryz.prog GL 72 [I n] [] (.tup [.agg [I (cY n),I (cM n),I (cD n)],I (cE n)]) []:=by
 unfold cY cM cD cE
 by_cases h:isDay n=true
 ·simp only[h,if_true];rw[isDay_iff]at h
  refine SCall.of (by kernel_rfl) rfl trivial rfl (fun X hX=> ?_)
  exact demurrageref04_Of_2 hX (by omega) (by omega) (rOf_yr h.1 h.2 hX 9999 1 10000 (by omega) (by omega) (by omega) (by omega) (by unfold ahd;omega) (by unfold ahd;omega))
 ·simp only[h];rw[isDay_iff]at h
  by_cases h1:n<1
  ·exact demurrageref04_Of_0 h1
  ·exact demurrageref04_Of_1 h1 (by omega)
theorem cY_nn (n:Int):0≤cY n:=by
 unfold cY
 split
 ·rename_i h;rw[isDay_iff]at h;obtain⟨M, -, -, -,h1, -⟩:=civOf_ok h.1 h.2;omega
 ·omega
theorem civ_ok {n:Int} (h:isDay n=true):cE n=0∧1≤cM n∧cM n≤12∧1≤cY n∧cY n≤9999∧1≤cD n∧cD n≤len (cY n) (cM n)∧cD n≤31∧n=ahd (cY n)+mons (cY n) (cM n-1).toNat+cD n:=by
 have h':=isDay_iff.1 h
 obtain⟨M,e,h1,h2,h3,h4,h5,h6,h7⟩:=civOf_ok h'.1 h'.2
 have e1:cM n=(M:Int):=by unfold cM;rw[if_pos h];exact e
 have e2:cY n=(civOf n).1:=by unfold cY;rw[if_pos h]
 have e3:cD n=(civOf n).2.2:=by unfold cD;rw[if_pos h]
 have:=(len_le (cY n) (cM n)).1
 rw[e1,e2]at this
 refine⟨by unfold cE;rw[if_pos h],by omega,by omega,by omega,by omega,by omega,by rw[e1,e2,e3];exact h6,by omega, ?_⟩
 rw[e1,e2,e3,show((M:Int)-1).toNat=M-1 by omega]
 exact h7
end Go.Proofs.YtelidogcomffkaaGreatDoor
