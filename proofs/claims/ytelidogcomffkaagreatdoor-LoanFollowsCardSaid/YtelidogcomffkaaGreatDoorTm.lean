/-
Layer 15 (terms), of both: names, kinds, periods of a year, why terms may not be, as total functions.
-/
import Derived.Test.YtelidogcomffkaaGreatDoorCnN
import Derived.Test.YtelidogcomffkaaGreatDoorCi2
import Derived.Test.YtelidogcomffkaaGreatDoorIsf
import Derived.Test.YtelidogcomffkaaGreatDoorAsT
import Derived.Test.YtelidogcomffkaaGreatDoorProg
import Derived.KernelRfl
set_option linter.unusedSectionVars false
set_option linter.unusedSimpArgs false
set_option linter.unusedVariables false
set_option maxRecDepth 100000
namespace Go.Proofs.YtelidogcomffkaaGreatDoor
open Go Go.Sx
variable [EnvT]
def nm3 (k:Int):ByteArray:=if 0≤k∧k<3 then tnm k.toNat else⟨#[]⟩
def nm5 (k:Int):ByteArray:=if 0≤k∧k<5 then rlnm k.toNat else⟨#[]⟩
def frq (m:Int):Int:=if m=1 then 12 else if m=2 then 6 else if m=3 then 4 else if m=4 then 3 else if m=6 then 2 else if m=12 then 1 else 0
theorem tName (k:Int):S 168 [I k] [] (.val (.string (nm3 k))) []:=by
 refine SCall.st fun X hX=> ?_
 unfold nm3 at hX
 by_cases h0:k<0
 ·rw[if_neg (by omega)]at hX
  exact hX.e [t_ (dt h0),t_ (dt h0),t_ (dt h0),t_ rt]
 ·refine hX.go [f_ (df h0),f_ (df h0),f_ (df h0)] ?_
  by_cases h1:k≥3
  ·rw[if_neg (by omega)]at hX
   exact hX.e [t_ (dt h1)]
  ·have h2:(0:Int)≤k∧k<((3:Nat):Int):=by omega
   rw[if_pos (by omega)]at hX
   exact hX.e [f_ (df h1),q_ h2,q_ h2]
theorem rlName (k:Int):S 170 [I k] [] (.val (.string (nm5 k))) []:=by
 refine SCall.st fun X hX=> ?_
 unfold nm5 at hX
 by_cases h0:k<0
 ·rw[if_neg (by omega)]at hX
  exact hX.e [t_ (dt h0),t_ (dt h0),t_ (dt h0),t_ rt]
 ·refine hX.go [f_ (df h0),f_ (df h0),f_ (df h0)] ?_
  by_cases h1:k≥5
  ·rw[if_neg (by omega)]at hX
   exact hX.e [t_ (dt h1)]
  ·have h2:(0:Int)≤k∧k<((5:Nat):Int):=by omega
   rw[if_pos (by omega)]at hX
   exact hX.e [f_ (df h1),q_ h2,q_ h2]
theorem frq_pos {m:Int} (h1: ¬m<1) (h2:12%m=0):frq m=12/m:=by
 have hle:m≤12:=by
  refine Int.not_lt.1 fun c=> ?_
  rw[Int.emod_eq_of_lt (by decide) c]at h2
  exact absurd h2 (by decide)
 have:m=1∨m=2∨m=3∨m=4∨m=5∨m=6∨m=7∨m=8∨m=9∨m=10∨m=11∨m=12:=by omega
 rcases this with rfl|rfl|rfl|rfl|rfl|rfl|rfl|rfl|rfl|rfl|rfl|rfl<;>first|rfl|exact absurd h2 (by decide)
theorem frq_no {m:Int} (h:m<1∨12%m≠0):frq m=0:=by
 unfold frq
 have h1:m≠1:=by rintro rfl;revert h;decide
 have h2:m≠2:=by rintro rfl;revert h;decide
 have h3:m≠3:=by rintro rfl;revert h;decide
 have h4:m≠4:=by rintro rfl;revert h;decide
 have h6:m≠6:=by rintro rfl;revert h;decide
 have h12:m≠12:=by rintro rfl;revert h;decide
 rw[if_neg h1,if_neg h2,if_neg h3,if_neg h4,if_neg h6,if_neg h12]
theorem tFreq (m:Int):S 77 [I m] [] (I (frq m)) []:=by
 refine SCall.st fun X hX=> ?_
 by_cases h0:m<1
 ·rw[frq_no (.inl h0)]at hX
  exact hX.e [t_ (dt h0),t_ (dt h0),t_ (dt h0),t_ (dt h0),t_ rt]
 ·have h1:(0:Int)<m:=by omega
  refine hX.go [f_ (df h0),f_ (df h0),q_ (show(0:Int)≤12 from by decide),q_ h1,f_ (df h0),f_ (df h0)] ?_
  by_cases h2:(12%m)=0
  ·rw[frq_pos h0 h2]at hX
   have h4:12/m≤12:=Int.ediv_le_self _ (by decide)
   have h5:0≤12/m:=Int.ediv_nonneg (by decide) (by omega)
   have h3:Ir (12/m):=by simp only[Ir,InR];omega
   exact hX.e [f_ (bne_eq_false_iff_eq.2 h2),q_ (show(0:Int)≤12 from by decide),q_ h1,q_ h3]
  ·rw[frq_no (.inr h2)]at hX
   exact hX.e [t_ (bne_iff_ne.2 h2)]
theorem rFreq (m:Int):S 40 [I m] [] (I (frq m)) []:=by
 refine SCall.st fun X hX=> ?_
 unfold frq at hX
 by_cases h0:m=1
 ·rw[if_pos h0]at hX;exact hX.e [t_ (beq_iff_eq.2 h0)]
 ·rw[if_neg h0]at hX
  refine hX.go [f_ (beq_eq_false_iff_ne.2 h0)] ?_
  by_cases h1:m=2
  ·rw[if_pos h1]at hX;exact hX.e [t_ (beq_iff_eq.2 h1)]
  ·rw[if_neg h1]at hX
   refine hX.go [f_ (beq_eq_false_iff_ne.2 h1)] ?_
   by_cases h2:m=3
   ·rw[if_pos h2]at hX;exact hX.e [t_ (beq_iff_eq.2 h2)]
   ·rw[if_neg h2]at hX
    refine hX.go [f_ (beq_eq_false_iff_ne.2 h2)] ?_
    by_cases h3:m=4
    ·rw[if_pos h3]at hX;exact hX.e [t_ (beq_iff_eq.2 h3)]
    ·rw[if_neg h3]at hX
     refine hX.go [f_ (beq_eq_false_iff_ne.2 h3)] ?_
     by_cases h4:m=6
     ·rw[if_pos h4]at hX;exact hX.e [t_ (beq_iff_eq.2 h4)]
     ·rw[if_neg h4]at hX
      refine hX.go [f_ (beq_eq_false_iff_ne.2 h4)] ?_
      by_cases h5:m=12
      ·rw[if_pos h5]at hX;exact hX.e [t_ (beq_iff_eq.2 h5)]
      ·rw[if_neg h5]at hX
       exact hX.e [f_ (beq_eq_false_iff_ne.2 h5)]
def eO:Option (Int×ByteArray)→SV
 |none=> .val .nilIface
 |some (c,a)=> .ifc 205 (.agg [I c, .val (.string a)])
def eB (b:Bool) (a:ByteArray):Option (Int×ByteArray):=match b with
 |true=>some (1,a)
 |false=>none
def emp (s:ByteArray):Bool:=s.toList==(⟨#[]⟩:ByteArray).toList
abbrev aKind:ByteArray:=⟨#[107,105,110,100]⟩
abbrev aCount:ByteArray:=⟨#[99,111,117,110,116]⟩
abbrev aRoll:ByteArray:=⟨#[114,111,108,108]⟩
abbrev aMonths:ByteArray:=⟨#[109,111,110,116,104,115]⟩
abbrev aPeriod:ByteArray:=⟨#[112,101,114,105,111,100]⟩
abbrev aDay:ByteArray:=⟨#[100,97,121]⟩
abbrev aDays:ByteArray:=⟨#[100,97,121,115]⟩
abbrev aMoney:ByteArray:=⟨#[109,111,110,101,121]⟩
abbrev aRate:ByteArray:=⟨#[114,97,116,101]⟩
abbrev aBoth:ByteArray:=⟨#[98,111,116,104]⟩
theorem knownE (n a:ByteArray):S 167 [.val (.string n), .val (.string a)] [] (eO (eB (emp n) a)) []:=by
 refine SCall.st fun X hX=> ?_
 rcases bcase (emp n)with h0|h0
 ·rw[h0]at hX;exact hX.e [t_ (show(n.toList==(⟨#[]⟩:ByteArray).toList)=true from h0)]
 ·rw[h0]at hX;exact hX.e [f_ (show(n.toList==(⟨#[]⟩:ByteArray).toList)=false from h0)]
theorem isE (b:Bool) (a:ByteArray):S 171 [eO (eB b a), .val (errS EnvT.n2)] [] (B b) []:=by
 cases b
 ·exact isNil_S _
 ·exact isFault_S _ _
def formsO (b1 b2 b3 b4:Bool):Option (Int×ByteArray):=match b1,b2,b3,b4 with
 |true,_,_,_=>some (1,aKind)
 |false,true,_,_=>some (1,aCount)
 |false,false,true,_=>some (1,aRoll)
 |false,false,false,true=>some (1,aMonths)
 |false,false,false,false=>none
def fIt (i:Int) (b:Bool) (a:ByteArray) (h:(0:Int)≤i∧i<((4:Nat):Int)) (h':Ir (i+1)) (r:List It):List It:=
 [t_ rt,q_ h,q_ (re 4),q_ h,c_ [] (isE b a),b_ b rfl]++(match b with|true=>[]|false=>q_ h'::r)
def fIts {b1 b2 b3 b4:Bool} {a3 a4 a11:Int} {m3 m4 m5 p:ByteArray} (n1:S 168 [I a3] [] (.val (.string m3)) []) (n2:S 169 [I a4] [] (.val (.string m4)) []) (n3:S 170 [I a11] [] (.val (.string m5)) [])
    (k1:S 167 [.val (.string m3), .val (.string aKind)] [] (eO (eB b1 aKind)) []) (k2:S 167 [.val (.string m4), .val (.string aCount)] [] (eO (eB b2 aCount)) [])
    (k3:S 167 [.val (.string m5), .val (.string aRoll)] [] (eO (eB b3 aRoll)) []) (k4:S 167 [.val (.string p), .val (.string aMonths)] [] (eO (eB b4 aMonths)) []):List It:=
 [d_ 17,c_ [] n1,c_ [] k1,c_ [] n2,c_ [] k2,c_ [] n3,c_ [] k3,c_ [] k4,l_ [[eO (eB b1 aKind)],[eO (eB b2 aCount)],[eO (eB b3 aRoll)],[eO (eB b4 aMonths)]]]++
  fIt 0 b1 aKind (by decide) (by decide) (fIt 1 b2 aCount (by decide) (by decide) (fIt 2 b3 aRoll (by decide) (by decide) (fIt 3 b4 aMonths (by decide) (by decide) [f_ rf])))
theorem forms_ok (b4:Bool) {a1 a2 a3 a4 a5 a6 a7:Int} {a8 a9 a10:Bool} {a11:Int} (hb:b4= !decide (frq a7>0)):
  S 135 [.agg [I a1,I a2,I a3,I a4,I a5,I a6,I a7,B a8,B a9,B a10,I a11]] [] (eO (formsO (emp (nm3 a3)) (emp (nmC a4)) (emp (nm5 a11)) b4)) []:=by
 have k1:=knownE (nm3 a3) aKind
 have k2:=knownE (nmC a4) aCount
 have k3:=knownE (nm5 a11) aRoll
 have k4:S 167 [.val (.string (if frq a7>0 then aPeriod else⟨#[]⟩)), .val (.string aMonths)] [] (eO (eB b4 aMonths)) []:=by
  subst hb
  by_cases h:frq a7>0
  ·rw[if_pos h,decide_eq_true h]
   have:=knownE aPeriod aMonths
   rw[show emp aPeriod= !true by decide+kernel]at this
   exact this
  ·rw[if_neg h,decide_eq_false h]
   have:=knownE ⟨#[]⟩ aMonths
   rw[show emp ⟨#[]⟩= !false by decide+kernel]at this
   exact this
 have n1:=tName a3
 have n2:=cName a4
 have n3:=rlName a11
 generalize emp (nm3 a3)=b1 at*
 generalize emp (nmC a4)=b2 at*
 generalize emp (nm5 a11)=b3 at*
 clear hb
 refine SCall.st fun X hX=> ?_
 refine hX.go [c_ [] (tFreq a7)] ?_
 by_cases h0:(frq a7)>0
 ·rw[if_pos h0]at k4
  refine hX.go [t_ (dt h0)] ?_
  cases b1<;>cases b2<;>cases b3<;>cases b4<;>exact hX.e (fIts n1 n2 n3 k1 k2 k3 k4)
 ·rw[if_neg h0]at k4
  refine hX.go [f_ (df h0)] ?_
  cases b1<;>cases b2<;>cases b3<;>cases b4<;>exact hX.e (fIts n1 n2 n3 k1 k2 k3 k4)
def daysO (s e:Int):Option (Int×ByteArray):=if isDay s=false∨isDay e=false then some (3,aDay)else if s≥e then some (4,aDays)else none
theorem days_ok {a1 a2 a3 a4 a5 a6 a7:Int} {a8 a9 a10:Bool} {a11:Int}:
  S 136 [.agg [I a1,I a2,I a3,I a4,I a5,I a6,I a7,B a8,B a9,B a10,I a11]] [] (eO (daysO a5 a6)) []:=by
 refine SCall.st fun X hX=> ?_
 unfold daysO at hX
 refine hX.go [l_ [[I a5],[I a6]],t_ rt,q_ (show(0:Int)≤0∧0<((2:Nat):Int)from by decide),q_ (re 2),q_ (show(0:Int)≤0∧0<((2:Nat):Int)from by decide),c_ [] (cOfT a5)] ?_
 rcases bcase (isDay a5)with d1|d1
 ·have h0:cE a5=0:=by unfold cE;rw[if_pos d1]
  refine hX.go [f_ (bne_eq_false_iff_eq.2 h0),q_ (show Ir 1 from by decide),t_ rt,q_ (show(0:Int)≤1∧1<((2:Nat):Int)from by decide),q_ (re 2),q_ (show(0:Int)≤1∧1<((2:Nat):Int)from by decide),c_ [] (cOfT a6)] ?_
  rcases bcase (isDay a6)with d2|d2
  ·have h1:cE a6=0:=by unfold cE;rw[if_pos d2]
   rw[d1,d2,if_neg (by decide)]at hX
   refine hX.go [f_ (bne_eq_false_iff_eq.2 h1),q_ (show Ir 2 from by decide),f_ rf] ?_
   by_cases h2:a5≥a6
   ·rw[if_pos h2]at hX;exact hX.e [t_ (dt h2)]
   ·rw[if_neg h2]at hX;exact hX.e [f_ (df h2)]
  ·have h1:cE a6=3:=by unfold cE;rw[if_neg (by rw[d2];decide)]
   have h2:cE a6≠0:=by rw[h1];decide
   rw[d2,if_pos (.inr rfl),←h1]at hX
   exact hX.e [t_ (bne_iff_ne.2 h2)]
 ·have h0:cE a5=3:=by unfold cE;rw[if_neg (by rw[d1];decide)]
  have h2:cE a5≠0:=by rw[h0];decide
  rw[d1,if_pos (.inl rfl),←h0]at hX
  exact hX.e [t_ (bne_iff_ne.2 h2)]
def boundsO (m r:Int):Option (Int×ByteArray):=if m<1∨m>1000000000000000 then some (2,aMoney)else if r<0∨r>1000000 then some (2,aRate)else if r>9000000000000000000/m then some (2,aBoth)else none
theorem bounds_ok {a1 a2 a3 a4 a5 a6 a7:Int} {a8 a9 a10:Bool} {a11:Int}:
  S 137 [.agg [I a1,I a2,I a3,I a4,I a5,I a6,I a7,B a8,B a9,B a10,I a11]] [] (eO (boundsO a1 a2)) []:=by
 refine SCall.st fun X hX=> ?_
 unfold boundsO at hX
 by_cases h0:a1<1
 ·rw[if_pos (.inl h0)]at hX
  exact hX.e [t_ (dt h0),t_ (dt h0),t_ (dt h0),t_ (dt h0),t_ rt]
 ·refine hX.go [f_ (df h0),f_ (df h0),f_ (df h0),f_ (df h0)] ?_
  by_cases h1:a1>1000000000000000
  ·rw[if_pos (.inr h1)]at hX
   exact hX.e [t_ (dt h1)]
  ·rw[if_neg (by omega)]at hX
   refine hX.go [f_ (df h1)] ?_
   by_cases h2:a2<0
   ·rw[if_pos (.inl h2)]at hX
    exact hX.e [t_ (dt h2),t_ (dt h2),t_ (dt h2),t_ (dt h2),t_ rt]
   ·refine hX.go [f_ (df h2),f_ (df h2),f_ (df h2),f_ (df h2)] ?_
    by_cases h3:a2>1000000
    ·rw[if_pos (.inr h3)]at hX
     exact hX.e [t_ (dt h3)]
    ·rw[if_neg (by omega)]at hX
     have h4:(0:Int)<a1:=by omega
     have h5:Ir (9000000000000000000/a1):=by
      have h6:9000000000000000000/a1≤9000000000000000000:=Int.ediv_le_self _ (by decide)
      have h7:0≤9000000000000000000/a1:=Int.ediv_nonneg (by decide) (by omega)
      simp only[Ir,InR];omega
     refine hX.go [f_ (df h3),q_ (show(0:Int)≤9000000000000000000 from by decide),q_ h4,q_ h5,d_ 5] ?_
     by_cases h6:a2>(9000000000000000000/a1)
     ·rw[if_pos h6]at hX;exact hX.e [t_ (dt h6)]
     ·rw[if_neg h6]at hX;exact hX.e [f_ (df h6)]
theorem asT_nil:S 138 [.val .nilIface, .ifc 211 (.ptr 0 0)] [some (.box false [I 0, .val (.string (⟨#[]⟩:ByteArray))])] (B false) []:=by
 intro θ w hh hg cs
 obtain⟨e,w',fr',⟨rfl,rfl⟩,hc,h3,h4⟩:=as_nilT (den θ (.ifc 211 (.ptr 0 0))) w cs
 exact⟨_,_,fr',⟨Go.RowKit.Below.refl _ _,_,rfl,fun _=>⟨none,0,0⟩,fun θ' hs _=>⟨rfl,hh.sc hs ⟨rfl,trivial⟩⟩⟩,hc,h3,h4⟩
def chk (money rate kind count start fin months roll:Int):Int:=
 if kind<0∨kind>2∨count<0∨count>6∨roll<0∨roll>4∨frq months=0 then 1
 else if isDay start=false∨isDay fin=false then 3
 else if start≥fin then 4
 else if money<1∨money>1000000000000000∨rate<0∨rate>1000000∨money*rate>9000000000000000000 then 2 else 0
def orO:Option (Int×ByteArray)→Int→Int
 |none,c=>c
 |some (c,_),_=>c
theorem check_walk {f d b:Option (Int×ByteArray)} {a1 a2 a3 a4 a5 a6 a7:Int} {a8 a9 a10:Bool} {a11:Int}
  (Kf:S 135 [.agg [I a1,I a2,I a3,I a4,I a5,I a6,I a7,B a8,B a9,B a10,I a11]] [] (eO f) []) (Kd:S 136 [.agg [I a1,I a2,I a3,I a4,I a5,I a6,I a7,B a8,B a9,B a10,I a11]] [] (eO d) [])
  (Kb:S 137 [.agg [I a1,I a2,I a3,I a4,I a5,I a6,I a7,B a8,B a9,B a10,I a11]] [] (eO b) []):
  S 107 [.agg [I a1,I a2,I a3,I a4,I a5,I a6,I a7,B a8,B a9,B a10,I a11]] [] (I (orO f (orO d (orO b 0)))) []:=by
 refine SCall.st fun X hX=> ?_
 refine hX.go [l_ [[.fn (.func 135) [] []],[.fn (.func 136) [] []],[.fn (.func 137) [] []]],t_ rt,q_ (show(0:Int)≤0∧0<((3:Nat):Int)from by decide),q_ (re 3),q_ (show(0:Int)≤0∧0<((3:Nat):Int)from by decide)] ?_
 match f,Kf,hX with
 |some (c,a),Kf,hX=>
  refine hX.go [c_ [] Kf] ?_
  refine hX.as (asT c a) ?_
  exact hX.e [t_ rt]
 |none,Kf,hX=>
  refine hX.go [c_ [] Kf,c_ [1] asT_nil,f_ rf,q_ (show Ir 1 from by decide),t_ rt,q_ (show(0:Int)≤1∧1<((3:Nat):Int)from by decide),q_ (re 3),q_ (show(0:Int)≤1∧1<((3:Nat):Int)from by decide)] ?_
  match d,Kd,hX with
  |some (c,a),Kd,hX=>
   refine hX.go [c_ [] Kd] ?_
   refine hX.as (asT c a) ?_
   exact hX.e [t_ rt]
  |none,Kd,hX=>
   refine hX.go [c_ [] Kd,c_ [1] asT_nil,f_ rf,q_ (show Ir 2 from by decide),t_ rt,q_ (show(0:Int)≤2∧2<((3:Nat):Int)from by decide),q_ (re 3),q_ (show(0:Int)≤2∧2<((3:Nat):Int)from by decide)] ?_
   match b,Kb,hX with
   |some (c,a),Kb,hX=>
    refine hX.go [c_ [] Kb] ?_
    refine hX.as (asT c a) ?_
    exact hX.e [t_ rt]
   |none,Kb,hX=>
    exact hX.e [c_ [] Kb,c_ [1] asT_nil,f_ rf,q_ (show Ir 3 from by decide),f_ rf]
theorem emp3 (k:Int):emp (nm3 k)= !decide (0≤k∧k<3):=by
 unfold nm3
 by_cases h:0≤k∧k<3
 ·rw[if_pos h,decide_eq_true h]
  have:k=0∨k=1∨k=2:=by omega
  rcases this with rfl|rfl|rfl<;>decide+kernel
 ·rw[if_neg h,decide_eq_false h];decide+kernel
theorem emp5 (k:Int):emp (nm5 k)= !decide (0≤k∧k<5):=by
 unfold nm5
 by_cases h:0≤k∧k<5
 ·rw[if_pos h,decide_eq_true h]
  have:k=0∨k=1∨k=2∨k=3∨k=4:=by omega
  rcases this with rfl|rfl|rfl|rfl|rfl<;>decide+kernel
 ·rw[if_neg h,decide_eq_false h];decide+kernel
theorem empC (k:Int):emp (nmC k)= !decide (0≤k∧k<7):=by
 by_cases h:0≤k∧k<7
 ·rw[decide_eq_true h]
  have:k=0∨k=1∨k=2∨k=3∨k=4∨k=5∨k=6:=by omega
  rcases this with rfl|rfl|rfl|rfl|rfl|rfl|rfl<;>decide+kernel
 ·rw[decide_eq_false h]
  unfold nmC
  rw[if_neg (by omega),if_neg (by omega),if_neg (by omega),if_neg (by omega),if_neg (by omega),if_neg (by omega),if_neg (by omega)];decide+kernel
theorem frq_nn (m:Int):0≤frq m:=by unfold frq;(repeat' split)<;>decide
theorem both_iff {m r:Int} (h1:1≤m):r>9000000000000000000/m↔m*r>9000000000000000000:=by
 have h:=Int.ediv_lt_iff_lt_mul (a:=9000000000000000000) (b:=r) (c:=m) (by omega)
 rw[gt_iff_lt,gt_iff_lt,h,Int.mul_comm]
theorem chk_eq (money rate kind count start fin months roll:Int):
  orO (formsO (emp (nm3 kind)) (emp (nmC count)) (emp (nm5 roll)) (!decide (frq months>0))) (orO (daysO start fin) (orO (boundsO money rate) 0))=chk money rate kind count start fin months roll:=by
 have hf:=frq_nn months
 rw[emp3,emp5,empC]
 unfold chk
 by_cases h1:0≤kind∧kind<3
 ·by_cases h2:0≤count∧count<7
  ·by_cases h3:0≤roll∧roll<5
   ·by_cases h4:frq months>0
    ·rw[decide_eq_true h1,decide_eq_true h2,decide_eq_true h3,decide_eq_true h4,if_neg (by omega)]
     show orO (daysO start fin) _=_
     unfold daysO boundsO
     by_cases h5:isDay start=false∨isDay fin=false
     ·rw[if_pos h5,if_pos h5];rfl
     ·rw[if_neg h5,if_neg h5]
      by_cases h6:start≥fin
      ·rw[if_pos h6,if_pos h6];rfl
      ·rw[if_neg h6,if_neg h6]
       show orO (if _ then _ else _) _=_
       by_cases h7:money<1∨money>1000000000000000
       ·rw[if_pos h7,if_pos (by omega)];rfl
       ·rw[if_neg h7]
        by_cases h8:rate<0∨rate>1000000
        ·rw[if_pos h8,if_pos (by omega)];rfl
        ·rw[if_neg h8]
         by_cases h9:rate>9000000000000000000/money
         ·rw[if_pos h9,if_pos (.inr (.inr (.inr (.inr ((both_iff (by omega)).1 h9)))))];rfl
         ·rw[if_neg h9,if_neg (by
           have:=mt (both_iff (m:=money) (r:=rate) (by omega)).2 h9
           omega)];rfl
    ·rw[decide_eq_true h1,decide_eq_true h2,decide_eq_true h3,decide_eq_false h4,if_pos (by omega)];rfl
   ·rw[decide_eq_true h1,decide_eq_true h2,decide_eq_false h3,if_pos (by omega)];cases(!decide (frq months>0))<;>rfl
  ·rw[decide_eq_true h1,decide_eq_false h2,if_pos (by omega)];cases(!decide (0≤roll∧roll<5))<;>cases(!decide (frq months>0))<;>rfl
 ·rw[decide_eq_false h1,if_pos (by omega)];cases(!decide (0≤count∧count<7))<;>cases(!decide (0≤roll∧roll<5))<;>cases(!decide (frq months>0))<;>rfl
theorem tCheck (a1 a2 a3 a4 a5 a6 a7:Int) (a8 a9 a10:Bool) (a11:Int):
  S 107 [.agg [I a1,I a2,I a3,I a4,I a5,I a6,I a7,B a8,B a9,B a10,I a11]] [] (I (chk a1 a2 a3 a4 a5 a6 a7 a11)) []:=by
 rw[←chk_eq]
 exact check_walk (forms_ok _ rfl) days_ok bounds_ok
theorem rCheck (a1 a2 a3 a4 a5 a6 a7:Int) (a8 a9 a10:Bool) (a11:Int):
  S 23 [.agg [I a1,I a2,I a3,I a4,I a5,I a6,I a7,B a8,B a9,B a10,I a11]] [] (I (chk a1 a2 a3 a4 a5 a6 a7 a11)) []:=by
 refine SCall.st fun X hX=> ?_
 unfold chk at hX
 by_cases h0:a3<0
 ·rw[if_pos (by omega)]at hX;exact hX.e [n_ 4 (t_ (dt h0)),n_ 22 (t_ rt)]
 ·refine hX.go [n_ 4 (f_ (df h0))] ?_
  by_cases h1:a3>2
  ·rw[if_pos (by omega)]at hX;exact hX.e [n_ 4 (t_ (dt h1)),n_ 18 (t_ rt)]
  ·refine hX.go [n_ 4 (f_ (df h1))] ?_
   by_cases h2:a4<0
   ·rw[if_pos (by omega)]at hX;exact hX.e [n_ 4 (t_ (dt h2)),n_ 14 (t_ rt)]
   ·refine hX.go [n_ 4 (f_ (df h2))] ?_
    by_cases h3:a4>6
    ·rw[if_pos (by omega)]at hX;exact hX.e [n_ 4 (t_ (dt h3)),n_ 10 (t_ rt)]
    ·refine hX.go [n_ 4 (f_ (df h3))] ?_
     by_cases h4:a11<0
     ·rw[if_pos (by omega)]at hX;exact hX.e [n_ 4 (t_ (dt h4)),n_ 6 (t_ rt)]
     ·refine hX.go [n_ 4 (f_ (df h4))] ?_
      by_cases h5:a11>4
      ·rw[if_pos (by omega)]at hX;exact hX.e [n_ 5 (t_ (dt h5)),t_ rt]
      ·refine hX.go [n_ 3 (f_ (df h5)),c_ [] (rFreq a7),n_ 2 (f_ (df h5))] ?_
       by_cases h6:(frq a7)=0
       ·rw[if_pos (by omega)]at hX;exact hX.e [t_ (beq_iff_eq.2 h6)]
       ·rw[if_neg (by omega)]at hX
        refine hX.go [f_ (beq_eq_false_iff_ne.2 h6),c_ [] (rDay a5),c_ [] (rDay a6)] ?_
        rcases bcase (isDay a5)with h7|h7
        ·refine hX.go [n_ 3 (f_ (nf h7))] ?_
         rcases bcase (isDay a6)with h8|h8
         ·rw[h7,h8,if_neg (by decide)]at hX
          refine hX.go [f_ (nf h8)] ?_
          by_cases h9:a5≥a6
          ·rw[if_pos h9]at hX;exact hX.e [t_ (dt h9)]
          ·rw[if_neg h9]at hX
           refine hX.go [f_ (df h9)] ?_
           by_cases h10:a1<1
           ·rw[if_pos (.inl h10)]at hX;exact hX.e [n_ 4 (t_ (dt h10)),n_ 9 (t_ rt)]
           ·refine hX.go [n_ 4 (f_ (df h10))] ?_
            by_cases h11:a1>1000000000000000
            ·rw[if_pos (.inr (.inl h11))]at hX;exact hX.e [n_ 4 (t_ (dt h11)),n_ 5 (t_ rt)]
            ·refine hX.go [n_ 4 (f_ (df h11))] ?_
             by_cases h12:a2<0
             ·rw[if_pos (.inr (.inr (.inl h12)))]at hX;exact hX.e [n_ 4 (t_ (dt h12)),t_ rt]
             ·refine hX.go [n_ 4 (f_ (df h12))] ?_
              by_cases h13:a2>1000000
              ·rw[if_pos (.inr (.inr (.inr (.inl h13))))]at hX;exact hX.e [t_ (dt h13)]
              ·obtain⟨m,rfl⟩: ∃ m:Nat,a1=(m:Int):=⟨a1.toNat,by omega⟩
               obtain⟨r,rfl⟩: ∃ r:Nat,a2=(r:Int):=⟨a2.toNat,by omega⟩
               have hm:m<9223372036854775808:=by omega
               have hr:r<9223372036854775808:=by omega
               have l1:ln m≤5:=ln_le_iff.2 (by omega)
               have l2:ln r≤5:=ln_le_iff.2 (by omega)
               have l3:=ln_mul m r
               have l4:ln 9000000000000000000≤5:=ln_le_iff.2 (by decide)
               have c1:=From hm
               have c2:=From hr
               have c3:=Prod (a:=m) (b:=r) (by omega) (by omega)
               have c4:=From (v:=9000000000000000000) (by decide)
               have c5:=Cmp (a:=m*r) (b:=9000000000000000000) (by omega) (by omega)
               refine hX.go [f_ (df h13),d_ 8,c_ [] c1,c_ [] c2,c_ [1,2] c3,d_ 2,c_ [] c4,c_ [3,5] c5] ?_
               have hq:((m*r:Nat):Int)=(m:Int)*(r:Int):=by simp
               by_cases h19:cmpI ((m*r:Nat):Int) ((9000000000000000000:Nat):Int)>0
               ·rw[if_pos (.inr (.inr (.inr (.inr (by rw[←hq];have:=h19;unfold cmpI at this;split at this<;>(try split at this)<;>omega)))))]at hX
                exact hX.e [t_ (dt h19)]
               ·rw[if_neg (by
                 rw[←hq]
                 have: ¬((m*r:Nat):Int)>9000000000000000000:=by
                  have:=h19;unfold cmpI at this;split at this<;>(try split at this)<;>omega
                 omega)]at hX
                exact hX.e [f_ (df h19)]
         ·rw[h8,if_pos (.inr rfl)]at hX;exact hX.e [t_ (nt h8)]
        ·rw[h7,if_pos (.inl rfl)]at hX;exact hX.e [n_ 3 (t_ (nt h7)),t_ rt]
end Go.Proofs.YtelidogcomffkaaGreatDoor
