import Derived.Test.YtgojmodiaffcbaaGreatDoorPt
import Derived.Test.YtgojmodiaffcbaaGreatDoorProg
import Derived.KernelRfl
import Derived.Laws.Externs
set_option linter.unusedSectionVars false
set_option linter.unusedSimpArgs false
set_option linter.unusedVariables false
set_option maxRecDepth 100000
namespace Go.Proofs.YtgojmodiaffcbaaGreatDoor
open Go Go.Sx
variable [Env]
def partC (k a b:Int) (eom:Bool) (e f:Int) (n:Nat) (g:Nat→Int):Int×Int×Int:=if k=0 then r7US a b eom else if k=1 then r7E a b else if k=2 then r7Isda a b e else if k=3 then r8 a b 360 else if k=4 then r8 a b 365 else if k=5 then r8Y a b else if k=6 then partR a b n g f else(0,0,1)
theorem plain1E_w {a1 a2:Int} {a3:Bool} {a4 a5:Int} {n6:Nat} {g7:Nat→Int} {res:SV} (H:RT (r7E a1 a2)=res):
  S 142 [I a1,I a2, .agg [B a3,I a4,I a5, .sl 0 n6], .ptr 1 0] [ri n6 g7,some (.box false [.fn (.func 113) [] []])] res []:=by
 refine SCall.st fun X hX=> ?_
 obtain rfl:=H
 exact hX.e [c_ [] (show S 113 [I a1,I a2] [] (RT (r7E a1 a2)) []from thiE _ _)]
theorem plain1360_w {a1 a2:Int} {a3:Bool} {a4 a5:Int} {n6:Nat} {g7:Nat→Int} {res:SV} (H:RT (r8 a1 a2 360)=res):
  S 142 [I a1,I a2, .agg [B a3,I a4,I a5, .sl 0 n6], .ptr 1 0] [ri n6 g7,some (.box false [.fn (.func 116) [] []])] res []:=by
 refine SCall.st fun X hX=> ?_
 obtain rfl:=H
 exact hX.e [c_ [] (act360 a1 a2)]
theorem plain1365_w {a1 a2:Int} {a3:Bool} {a4 a5:Int} {n6:Nat} {g7:Nat→Int} {res:SV} (H:RT (r8 a1 a2 365)=res):
  S 142 [I a1,I a2, .agg [B a3,I a4,I a5, .sl 0 n6], .ptr 1 0] [ri n6 g7,some (.box false [.fn (.func 117) [] []])] res []:=by
 refine SCall.st fun X hX=> ?_
 obtain rfl:=H
 exact hX.e [c_ [] (act365 a1 a2)]
theorem plain1Y_w {a1 a2:Int} {a3:Bool} {a4 a5:Int} {n6:Nat} {g7:Nat→Int} {res:SV} (H:RT (r8Y a1 a2)=res):
  S 142 [I a1,I a2, .agg [B a3,I a4,I a5, .sl 0 n6], .ptr 1 0] [ri n6 g7,some (.box false [.fn (.func 118) [] []])] res []:=by
 refine SCall.st fun X hX=> ?_
 obtain rfl:=H
 exact hX.e [c_ [] (actYears a1 a2)]
theorem count_ways_1_w {a1 a2:Int} {a3:Bool} {a4 a5:Int} {n6:Nat} {g7:Nat→Int} {res:SV} (H:RT (r7US a1 a2 a3)=res):
  S 110 [I a1,I a2, .agg [B a3,I a4,I a5, .sl 0 n6]] [ri n6 g7] res []:=by
 refine SCall.st fun X hX=> ?_
 obtain rfl:=H
 exact hX.e [c_ [] (show S 111 [I a1,I a2,B a3] [] (RT (r7US a1 a2 a3)) []from thiUS _ _ _)]
theorem plainE {a b:Int} {eom:Bool} {e f:Int} {n:Nat} {g:Nat→Int}:S 142 [I a,I b, .agg [B eom,I e,I f, .sl 0 n], .ptr 1 0] [ri n g,some (.box false [.fn (.func 113) [] []])] (RT (r7E a b)) []:=plain1E_w rfl
theorem plain360 {a b:Int} {eom:Bool} {e f:Int} {n:Nat} {g:Nat→Int}:S 142 [I a,I b, .agg [B eom,I e,I f, .sl 0 n], .ptr 1 0] [ri n g,some (.box false [.fn (.func 116) [] []])] (RT (r8 a b 360)) []:=plain1360_w rfl
theorem plain365 {a b:Int} {eom:Bool} {e f:Int} {n:Nat} {g:Nat→Int}:S 142 [I a,I b, .agg [B eom,I e,I f, .sl 0 n], .ptr 1 0] [ri n g,some (.box false [.fn (.func 117) [] []])] (RT (r8 a b 365)) []:=plain1365_w rfl
theorem plainY {a b:Int} {eom:Bool} {e f:Int} {n:Nat} {g:Nat→Int}:S 142 [I a,I b, .agg [B eom,I e,I f, .sl 0 n], .ptr 1 0] [ri n g,some (.box false [.fn (.func 118) [] []])] (RT (r8Y a b)) []:=plain1Y_w rfl
theorem ways1 {a b:Int} {eom:Bool} {e f:Int} {n:Nat} {g:Nat→Int}:S 110 [I a,I b, .agg [B eom,I e,I f, .sl 0 n]] [ri n g] (RT (r7US a b eom)) []:=count_ways_1_w rfl
theorem count_ways_2_w {a1 a2:Int} {a3:Bool} {a4 a5:Int} {n6:Nat} {g7:Nat→Int} {res:SV} (H:RT (r7Isda a1 a2 a4)=res):
  S 114 [I a1,I a2, .agg [B a3,I a4,I a5, .sl 0 n6]] [ri n6 g7] res []:=by
 refine SCall.st fun X hX=> ?_
 obtain rfl:=H
 exact hX.e [c_ [] (show S 115 [I a1,I a2,I a4] [] (RT (r7Isda a1 a2 a4)) []from thiIsda _ _ _)]
theorem ways2 {a b:Int} {eom:Bool} {e f:Int} {n:Nat} {g:Nat→Int}:S 114 [I a,I b, .agg [B eom,I e,I f, .sl 0 n]] [ri n g] (RT (r7Isda a b e)) []:=count_ways_2_w rfl
theorem count_ways_3_w {a1 a2:Int} {a3:Bool} {a4 a5:Int} {n6:Nat} {g7:Nat→Int} {res:SV} (H:RT (partR a1 a2 n6 g7 a5)=res):
  S 119 [I a1,I a2, .agg [B a3,I a4,I a5, .sl 0 n6]] [ri n6 g7] res []:=by
 refine SCall.st fun X hX=> ?_
 obtain rfl:=H
 exact hX.e [c_ [0] (show S 120 [I a1,I a2, .sl 0 n6,I a5] [ri n6 g7] (RT (partR a1 a2 n6 g7 a5)) []from ipart)]
theorem ways3 {a b:Int} {eom:Bool} {e f:Int} {n:Nat} {g:Nat→Int}:S 119 [I a,I b, .agg [B eom,I e,I f, .sl 0 n]] [ri n g] (RT (partR a b n g f)) []:=count_ways_3_w rfl
theorem cPart0_w {a1 a2:Int} {a3:Bool} {a4 a5:Int} {n6:Nat} {g7:Nat→Int} {res:SV} (H:RT (r7US a1 a2 a3)=res):
  S 61 [I 0,I a1,I a2, .agg [B a3,I a4,I a5, .sl 0 n6]] [ri n6 g7] res []:=by
 refine SCall.st fun X hX=> ?_
 obtain rfl:=H
 exact hX.e [q_ (show ∀ k,k<7→(lrow [[.val (.string (⟨#[51,48,47,51,54,48]⟩:ByteArray)), .fn (.func 110) [] []],[.val (.string (⟨#[51,48,101,47,51,54,48]⟩:ByteArray)), .fn (.func 142) [] [.ptr 3 0]],[.val (.string (⟨#[51,48,101,47,51,54,48,105,115,100,97]⟩:ByteArray)), .fn (.func 114) [] []],[.val (.string (⟨#[97,99,116,47,51,54,48]⟩:ByteArray)), .fn (.func 142) [] [.ptr 4 0]],[.val (.string (⟨#[97,99,116,47,51,54,53,102]⟩:ByteArray)), .fn (.func 142) [] [.ptr 5 0]],[.val (.string (⟨#[97,99,116,47,97,99,116]⟩:ByteArray)), .fn (.func 142) [] [.ptr 6 0]],[.val (.string (⟨#[97,99,116,47,97,99,116,105,99,109,97]⟩:ByteArray)), .fn (.func 119) [] []]]) k=[[.val (.string (⟨#[51,48,47,51,54,48]⟩:ByteArray)), .fn (.func 110) [] []],[.val (.string (⟨#[51,48,101,47,51,54,48]⟩:ByteArray)), .fn (.func 142) [] [.ptr 3 0]],[.val (.string (⟨#[51,48,101,47,51,54,48,105,115,100,97]⟩:ByteArray)), .fn (.func 114) [] []],[.val (.string (⟨#[97,99,116,47,51,54,48]⟩:ByteArray)), .fn (.func 142) [] [.ptr 4 0]],[.val (.string (⟨#[97,99,116,47,51,54,53,102]⟩:ByteArray)), .fn (.func 142) [] [.ptr 5 0]],[.val (.string (⟨#[97,99,116,47,97,99,116]⟩:ByteArray)), .fn (.func 142) [] [.ptr 6 0]],[.val (.string (⟨#[97,99,116,47,97,99,116,105,99,109,97]⟩:ByteArray)), .fn (.func 119) [] []]].getD k []from by intro k hk;match k,hk with|0,_=>rfl|1,_=>rfl|2,_=>rfl|3,_=>rfl|4,_=>rfl|5,_=>rfl|6,_=>rfl|k+7,hk=>omega),i_,i_,i_,i_,i_,h_ [.row (lrow [[.val (.string (⟨#[51,48,47,51,54,48]⟩:ByteArray)), .fn (.func 110) [] []],[.val (.string (⟨#[51,48,101,47,51,54,48]⟩:ByteArray)), .fn (.func 142) [] [.ptr 3 0]],[.val (.string (⟨#[51,48,101,47,51,54,48,105,115,100,97]⟩:ByteArray)), .fn (.func 114) [] []],[.val (.string (⟨#[97,99,116,47,51,54,48]⟩:ByteArray)), .fn (.func 142) [] [.ptr 4 0]],[.val (.string (⟨#[97,99,116,47,51,54,53,102]⟩:ByteArray)), .fn (.func 142) [] [.ptr 5 0]],[.val (.string (⟨#[97,99,116,47,97,99,116]⟩:ByteArray)), .fn (.func 142) [] [.ptr 6 0]],[.val (.string (⟨#[97,99,116,47,97,99,116,105,99,109,97]⟩:ByteArray)), .fn (.func 119) [] []]])],f_ (show decide ((0:Int)<0)=false from rfl),f_ (show decide ((0:Int)<0)=false from rfl),f_ (show decide ((0:Int)<0)=false from rfl),f_ (show decide ((0:Int)<0)=false from rfl),f_ (show decide ((0:Int)<0)=false from rfl),f_ (show decide ((0:Int)≥7)=false from rfl),q_ (show(0:Int)≤0∧0<((7:Nat):Int)from by decide),q_ (re 7),q_ (show(0:Int)≤0∧0<((7:Nat):Int)from by decide),q_ (show(0:Int)≤0∧0<((7:Nat):Int)from by decide),d_ 11,c_ [0] (show S 110 [I a1,I a2, .agg [B a3,I a4,I a5, .sl 0 n6]] [ri n6 g7] (RT (r7US a1 a2 a3)) []from ways1)]
theorem cPart1_w {a1 a2:Int} {a3:Bool} {a4 a5:Int} {n6:Nat} {g7:Nat→Int} {res:SV} (H:RT (r7E a1 a2)=res):
  S 61 [I 1,I a1,I a2, .agg [B a3,I a4,I a5, .sl 0 n6]] [ri n6 g7] res []:=by
 refine SCall.st fun X hX=> ?_
 obtain rfl:=H
 exact hX.e [q_ (show ∀ k,k<7→(lrow [[.val (.string (⟨#[51,48,47,51,54,48]⟩:ByteArray)), .fn (.func 110) [] []],[.val (.string (⟨#[51,48,101,47,51,54,48]⟩:ByteArray)), .fn (.func 142) [] [.ptr 3 0]],[.val (.string (⟨#[51,48,101,47,51,54,48,105,115,100,97]⟩:ByteArray)), .fn (.func 114) [] []],[.val (.string (⟨#[97,99,116,47,51,54,48]⟩:ByteArray)), .fn (.func 142) [] [.ptr 4 0]],[.val (.string (⟨#[97,99,116,47,51,54,53,102]⟩:ByteArray)), .fn (.func 142) [] [.ptr 5 0]],[.val (.string (⟨#[97,99,116,47,97,99,116]⟩:ByteArray)), .fn (.func 142) [] [.ptr 6 0]],[.val (.string (⟨#[97,99,116,47,97,99,116,105,99,109,97]⟩:ByteArray)), .fn (.func 119) [] []]]) k=[[.val (.string (⟨#[51,48,47,51,54,48]⟩:ByteArray)), .fn (.func 110) [] []],[.val (.string (⟨#[51,48,101,47,51,54,48]⟩:ByteArray)), .fn (.func 142) [] [.ptr 3 0]],[.val (.string (⟨#[51,48,101,47,51,54,48,105,115,100,97]⟩:ByteArray)), .fn (.func 114) [] []],[.val (.string (⟨#[97,99,116,47,51,54,48]⟩:ByteArray)), .fn (.func 142) [] [.ptr 4 0]],[.val (.string (⟨#[97,99,116,47,51,54,53,102]⟩:ByteArray)), .fn (.func 142) [] [.ptr 5 0]],[.val (.string (⟨#[97,99,116,47,97,99,116]⟩:ByteArray)), .fn (.func 142) [] [.ptr 6 0]],[.val (.string (⟨#[97,99,116,47,97,99,116,105,99,109,97]⟩:ByteArray)), .fn (.func 119) [] []]].getD k []from by intro k hk;match k,hk with|0,_=>rfl|1,_=>rfl|2,_=>rfl|3,_=>rfl|4,_=>rfl|5,_=>rfl|6,_=>rfl|k+7,hk=>omega),i_,i_,i_,i_,i_,h_ [.row (lrow [[.val (.string (⟨#[51,48,47,51,54,48]⟩:ByteArray)), .fn (.func 110) [] []],[.val (.string (⟨#[51,48,101,47,51,54,48]⟩:ByteArray)), .fn (.func 142) [] [.ptr 3 0]],[.val (.string (⟨#[51,48,101,47,51,54,48,105,115,100,97]⟩:ByteArray)), .fn (.func 114) [] []],[.val (.string (⟨#[97,99,116,47,51,54,48]⟩:ByteArray)), .fn (.func 142) [] [.ptr 4 0]],[.val (.string (⟨#[97,99,116,47,51,54,53,102]⟩:ByteArray)), .fn (.func 142) [] [.ptr 5 0]],[.val (.string (⟨#[97,99,116,47,97,99,116]⟩:ByteArray)), .fn (.func 142) [] [.ptr 6 0]],[.val (.string (⟨#[97,99,116,47,97,99,116,105,99,109,97]⟩:ByteArray)), .fn (.func 119) [] []]])],f_ (show decide ((1:Int)<0)=false from rfl),f_ (show decide ((1:Int)<0)=false from rfl),f_ (show decide ((1:Int)<0)=false from rfl),f_ (show decide ((1:Int)<0)=false from rfl),f_ (show decide ((1:Int)<0)=false from rfl),f_ (show decide ((1:Int)≥7)=false from rfl),q_ (show(0:Int)≤1∧1<((7:Nat):Int)from by decide),q_ (re 7),q_ (show(0:Int)≤1∧1<((7:Nat):Int)from by decide),q_ (show(0:Int)≤1∧1<((7:Nat):Int)from by decide),d_ 11,c_ [0,3] (show S 142 [I a1,I a2, .agg [B a3,I a4,I a5, .sl 0 n6], .ptr 1 0] [ri n6 g7,some (.box false [.fn (.func 113) [] []])] (RT (r7E a1 a2)) []from plainE)]
theorem cPart2_w {a1 a2:Int} {a3:Bool} {a4 a5:Int} {n6:Nat} {g7:Nat→Int} {res:SV} (H:RT (r7Isda a1 a2 a4)=res):
  S 61 [I 2,I a1,I a2, .agg [B a3,I a4,I a5, .sl 0 n6]] [ri n6 g7] res []:=by
 refine SCall.st fun X hX=> ?_
 obtain rfl:=H
 exact hX.e [q_ (show ∀ k,k<7→(lrow [[.val (.string (⟨#[51,48,47,51,54,48]⟩:ByteArray)), .fn (.func 110) [] []],[.val (.string (⟨#[51,48,101,47,51,54,48]⟩:ByteArray)), .fn (.func 142) [] [.ptr 3 0]],[.val (.string (⟨#[51,48,101,47,51,54,48,105,115,100,97]⟩:ByteArray)), .fn (.func 114) [] []],[.val (.string (⟨#[97,99,116,47,51,54,48]⟩:ByteArray)), .fn (.func 142) [] [.ptr 4 0]],[.val (.string (⟨#[97,99,116,47,51,54,53,102]⟩:ByteArray)), .fn (.func 142) [] [.ptr 5 0]],[.val (.string (⟨#[97,99,116,47,97,99,116]⟩:ByteArray)), .fn (.func 142) [] [.ptr 6 0]],[.val (.string (⟨#[97,99,116,47,97,99,116,105,99,109,97]⟩:ByteArray)), .fn (.func 119) [] []]]) k=[[.val (.string (⟨#[51,48,47,51,54,48]⟩:ByteArray)), .fn (.func 110) [] []],[.val (.string (⟨#[51,48,101,47,51,54,48]⟩:ByteArray)), .fn (.func 142) [] [.ptr 3 0]],[.val (.string (⟨#[51,48,101,47,51,54,48,105,115,100,97]⟩:ByteArray)), .fn (.func 114) [] []],[.val (.string (⟨#[97,99,116,47,51,54,48]⟩:ByteArray)), .fn (.func 142) [] [.ptr 4 0]],[.val (.string (⟨#[97,99,116,47,51,54,53,102]⟩:ByteArray)), .fn (.func 142) [] [.ptr 5 0]],[.val (.string (⟨#[97,99,116,47,97,99,116]⟩:ByteArray)), .fn (.func 142) [] [.ptr 6 0]],[.val (.string (⟨#[97,99,116,47,97,99,116,105,99,109,97]⟩:ByteArray)), .fn (.func 119) [] []]].getD k []from by intro k hk;match k,hk with|0,_=>rfl|1,_=>rfl|2,_=>rfl|3,_=>rfl|4,_=>rfl|5,_=>rfl|6,_=>rfl|k+7,hk=>omega),i_,i_,i_,i_,i_,h_ [.row (lrow [[.val (.string (⟨#[51,48,47,51,54,48]⟩:ByteArray)), .fn (.func 110) [] []],[.val (.string (⟨#[51,48,101,47,51,54,48]⟩:ByteArray)), .fn (.func 142) [] [.ptr 3 0]],[.val (.string (⟨#[51,48,101,47,51,54,48,105,115,100,97]⟩:ByteArray)), .fn (.func 114) [] []],[.val (.string (⟨#[97,99,116,47,51,54,48]⟩:ByteArray)), .fn (.func 142) [] [.ptr 4 0]],[.val (.string (⟨#[97,99,116,47,51,54,53,102]⟩:ByteArray)), .fn (.func 142) [] [.ptr 5 0]],[.val (.string (⟨#[97,99,116,47,97,99,116]⟩:ByteArray)), .fn (.func 142) [] [.ptr 6 0]],[.val (.string (⟨#[97,99,116,47,97,99,116,105,99,109,97]⟩:ByteArray)), .fn (.func 119) [] []]])],f_ (show decide ((2:Int)<0)=false from rfl),f_ (show decide ((2:Int)<0)=false from rfl),f_ (show decide ((2:Int)<0)=false from rfl),f_ (show decide ((2:Int)<0)=false from rfl),f_ (show decide ((2:Int)<0)=false from rfl),f_ (show decide ((2:Int)≥7)=false from rfl),q_ (show(0:Int)≤2∧2<((7:Nat):Int)from by decide),q_ (re 7),q_ (show(0:Int)≤2∧2<((7:Nat):Int)from by decide),q_ (show(0:Int)≤2∧2<((7:Nat):Int)from by decide),d_ 11,c_ [0] (show S 114 [I a1,I a2, .agg [B a3,I a4,I a5, .sl 0 n6]] [ri n6 g7] (RT (r7Isda a1 a2 a4)) []from ways2)]
theorem cPart3_w {a1 a2:Int} {a3:Bool} {a4 a5:Int} {n6:Nat} {g7:Nat→Int} {res:SV} (H:RT (r8 a1 a2 360)=res):
  S 61 [I 3,I a1,I a2, .agg [B a3,I a4,I a5, .sl 0 n6]] [ri n6 g7] res []:=by
 refine SCall.st fun X hX=> ?_
 obtain rfl:=H
 exact hX.e [q_ (show ∀ k,k<7→(lrow [[.val (.string (⟨#[51,48,47,51,54,48]⟩:ByteArray)), .fn (.func 110) [] []],[.val (.string (⟨#[51,48,101,47,51,54,48]⟩:ByteArray)), .fn (.func 142) [] [.ptr 3 0]],[.val (.string (⟨#[51,48,101,47,51,54,48,105,115,100,97]⟩:ByteArray)), .fn (.func 114) [] []],[.val (.string (⟨#[97,99,116,47,51,54,48]⟩:ByteArray)), .fn (.func 142) [] [.ptr 4 0]],[.val (.string (⟨#[97,99,116,47,51,54,53,102]⟩:ByteArray)), .fn (.func 142) [] [.ptr 5 0]],[.val (.string (⟨#[97,99,116,47,97,99,116]⟩:ByteArray)), .fn (.func 142) [] [.ptr 6 0]],[.val (.string (⟨#[97,99,116,47,97,99,116,105,99,109,97]⟩:ByteArray)), .fn (.func 119) [] []]]) k=[[.val (.string (⟨#[51,48,47,51,54,48]⟩:ByteArray)), .fn (.func 110) [] []],[.val (.string (⟨#[51,48,101,47,51,54,48]⟩:ByteArray)), .fn (.func 142) [] [.ptr 3 0]],[.val (.string (⟨#[51,48,101,47,51,54,48,105,115,100,97]⟩:ByteArray)), .fn (.func 114) [] []],[.val (.string (⟨#[97,99,116,47,51,54,48]⟩:ByteArray)), .fn (.func 142) [] [.ptr 4 0]],[.val (.string (⟨#[97,99,116,47,51,54,53,102]⟩:ByteArray)), .fn (.func 142) [] [.ptr 5 0]],[.val (.string (⟨#[97,99,116,47,97,99,116]⟩:ByteArray)), .fn (.func 142) [] [.ptr 6 0]],[.val (.string (⟨#[97,99,116,47,97,99,116,105,99,109,97]⟩:ByteArray)), .fn (.func 119) [] []]].getD k []from by intro k hk;match k,hk with|0,_=>rfl|1,_=>rfl|2,_=>rfl|3,_=>rfl|4,_=>rfl|5,_=>rfl|6,_=>rfl|k+7,hk=>omega),i_,i_,i_,i_,i_,h_ [.row (lrow [[.val (.string (⟨#[51,48,47,51,54,48]⟩:ByteArray)), .fn (.func 110) [] []],[.val (.string (⟨#[51,48,101,47,51,54,48]⟩:ByteArray)), .fn (.func 142) [] [.ptr 3 0]],[.val (.string (⟨#[51,48,101,47,51,54,48,105,115,100,97]⟩:ByteArray)), .fn (.func 114) [] []],[.val (.string (⟨#[97,99,116,47,51,54,48]⟩:ByteArray)), .fn (.func 142) [] [.ptr 4 0]],[.val (.string (⟨#[97,99,116,47,51,54,53,102]⟩:ByteArray)), .fn (.func 142) [] [.ptr 5 0]],[.val (.string (⟨#[97,99,116,47,97,99,116]⟩:ByteArray)), .fn (.func 142) [] [.ptr 6 0]],[.val (.string (⟨#[97,99,116,47,97,99,116,105,99,109,97]⟩:ByteArray)), .fn (.func 119) [] []]])],f_ (show decide ((3:Int)<0)=false from rfl),f_ (show decide ((3:Int)<0)=false from rfl),f_ (show decide ((3:Int)<0)=false from rfl),f_ (show decide ((3:Int)<0)=false from rfl),f_ (show decide ((3:Int)<0)=false from rfl),f_ (show decide ((3:Int)≥7)=false from rfl),q_ (show(0:Int)≤3∧3<((7:Nat):Int)from by decide),q_ (re 7),q_ (show(0:Int)≤3∧3<((7:Nat):Int)from by decide),q_ (show(0:Int)≤3∧3<((7:Nat):Int)from by decide),d_ 11,c_ [0,4] (show S 142 [I a1,I a2, .agg [B a3,I a4,I a5, .sl 0 n6], .ptr 1 0] [ri n6 g7,some (.box false [.fn (.func 116) [] []])] (RT (r8 a1 a2 360)) []from plain360)]
theorem cPart4_w {a1 a2:Int} {a3:Bool} {a4 a5:Int} {n6:Nat} {g7:Nat→Int} {res:SV} (H:RT (r8 a1 a2 365)=res):
  S 61 [I 4,I a1,I a2, .agg [B a3,I a4,I a5, .sl 0 n6]] [ri n6 g7] res []:=by
 refine SCall.st fun X hX=> ?_
 obtain rfl:=H
 exact hX.e [q_ (show ∀ k,k<7→(lrow [[.val (.string (⟨#[51,48,47,51,54,48]⟩:ByteArray)), .fn (.func 110) [] []],[.val (.string (⟨#[51,48,101,47,51,54,48]⟩:ByteArray)), .fn (.func 142) [] [.ptr 3 0]],[.val (.string (⟨#[51,48,101,47,51,54,48,105,115,100,97]⟩:ByteArray)), .fn (.func 114) [] []],[.val (.string (⟨#[97,99,116,47,51,54,48]⟩:ByteArray)), .fn (.func 142) [] [.ptr 4 0]],[.val (.string (⟨#[97,99,116,47,51,54,53,102]⟩:ByteArray)), .fn (.func 142) [] [.ptr 5 0]],[.val (.string (⟨#[97,99,116,47,97,99,116]⟩:ByteArray)), .fn (.func 142) [] [.ptr 6 0]],[.val (.string (⟨#[97,99,116,47,97,99,116,105,99,109,97]⟩:ByteArray)), .fn (.func 119) [] []]]) k=[[.val (.string (⟨#[51,48,47,51,54,48]⟩:ByteArray)), .fn (.func 110) [] []],[.val (.string (⟨#[51,48,101,47,51,54,48]⟩:ByteArray)), .fn (.func 142) [] [.ptr 3 0]],[.val (.string (⟨#[51,48,101,47,51,54,48,105,115,100,97]⟩:ByteArray)), .fn (.func 114) [] []],[.val (.string (⟨#[97,99,116,47,51,54,48]⟩:ByteArray)), .fn (.func 142) [] [.ptr 4 0]],[.val (.string (⟨#[97,99,116,47,51,54,53,102]⟩:ByteArray)), .fn (.func 142) [] [.ptr 5 0]],[.val (.string (⟨#[97,99,116,47,97,99,116]⟩:ByteArray)), .fn (.func 142) [] [.ptr 6 0]],[.val (.string (⟨#[97,99,116,47,97,99,116,105,99,109,97]⟩:ByteArray)), .fn (.func 119) [] []]].getD k []from by intro k hk;match k,hk with|0,_=>rfl|1,_=>rfl|2,_=>rfl|3,_=>rfl|4,_=>rfl|5,_=>rfl|6,_=>rfl|k+7,hk=>omega),i_,i_,i_,i_,i_,h_ [.row (lrow [[.val (.string (⟨#[51,48,47,51,54,48]⟩:ByteArray)), .fn (.func 110) [] []],[.val (.string (⟨#[51,48,101,47,51,54,48]⟩:ByteArray)), .fn (.func 142) [] [.ptr 3 0]],[.val (.string (⟨#[51,48,101,47,51,54,48,105,115,100,97]⟩:ByteArray)), .fn (.func 114) [] []],[.val (.string (⟨#[97,99,116,47,51,54,48]⟩:ByteArray)), .fn (.func 142) [] [.ptr 4 0]],[.val (.string (⟨#[97,99,116,47,51,54,53,102]⟩:ByteArray)), .fn (.func 142) [] [.ptr 5 0]],[.val (.string (⟨#[97,99,116,47,97,99,116]⟩:ByteArray)), .fn (.func 142) [] [.ptr 6 0]],[.val (.string (⟨#[97,99,116,47,97,99,116,105,99,109,97]⟩:ByteArray)), .fn (.func 119) [] []]])],f_ (show decide ((4:Int)<0)=false from rfl),f_ (show decide ((4:Int)<0)=false from rfl),f_ (show decide ((4:Int)<0)=false from rfl),f_ (show decide ((4:Int)<0)=false from rfl),f_ (show decide ((4:Int)<0)=false from rfl),f_ (show decide ((4:Int)≥7)=false from rfl),q_ (show(0:Int)≤4∧4<((7:Nat):Int)from by decide),q_ (re 7),q_ (show(0:Int)≤4∧4<((7:Nat):Int)from by decide),q_ (show(0:Int)≤4∧4<((7:Nat):Int)from by decide),d_ 11,c_ [0,5] (show S 142 [I a1,I a2, .agg [B a3,I a4,I a5, .sl 0 n6], .ptr 1 0] [ri n6 g7,some (.box false [.fn (.func 117) [] []])] (RT (r8 a1 a2 365)) []from plain365)]
theorem cPart5_w {a1 a2:Int} {a3:Bool} {a4 a5:Int} {n6:Nat} {g7:Nat→Int} {res:SV} (H:RT (r8Y a1 a2)=res):
  S 61 [I 5,I a1,I a2, .agg [B a3,I a4,I a5, .sl 0 n6]] [ri n6 g7] res []:=by
 refine SCall.st fun X hX=> ?_
 obtain rfl:=H
 exact hX.e [q_ (show ∀ k,k<7→(lrow [[.val (.string (⟨#[51,48,47,51,54,48]⟩:ByteArray)), .fn (.func 110) [] []],[.val (.string (⟨#[51,48,101,47,51,54,48]⟩:ByteArray)), .fn (.func 142) [] [.ptr 3 0]],[.val (.string (⟨#[51,48,101,47,51,54,48,105,115,100,97]⟩:ByteArray)), .fn (.func 114) [] []],[.val (.string (⟨#[97,99,116,47,51,54,48]⟩:ByteArray)), .fn (.func 142) [] [.ptr 4 0]],[.val (.string (⟨#[97,99,116,47,51,54,53,102]⟩:ByteArray)), .fn (.func 142) [] [.ptr 5 0]],[.val (.string (⟨#[97,99,116,47,97,99,116]⟩:ByteArray)), .fn (.func 142) [] [.ptr 6 0]],[.val (.string (⟨#[97,99,116,47,97,99,116,105,99,109,97]⟩:ByteArray)), .fn (.func 119) [] []]]) k=[[.val (.string (⟨#[51,48,47,51,54,48]⟩:ByteArray)), .fn (.func 110) [] []],[.val (.string (⟨#[51,48,101,47,51,54,48]⟩:ByteArray)), .fn (.func 142) [] [.ptr 3 0]],[.val (.string (⟨#[51,48,101,47,51,54,48,105,115,100,97]⟩:ByteArray)), .fn (.func 114) [] []],[.val (.string (⟨#[97,99,116,47,51,54,48]⟩:ByteArray)), .fn (.func 142) [] [.ptr 4 0]],[.val (.string (⟨#[97,99,116,47,51,54,53,102]⟩:ByteArray)), .fn (.func 142) [] [.ptr 5 0]],[.val (.string (⟨#[97,99,116,47,97,99,116]⟩:ByteArray)), .fn (.func 142) [] [.ptr 6 0]],[.val (.string (⟨#[97,99,116,47,97,99,116,105,99,109,97]⟩:ByteArray)), .fn (.func 119) [] []]].getD k []from by intro k hk;match k,hk with|0,_=>rfl|1,_=>rfl|2,_=>rfl|3,_=>rfl|4,_=>rfl|5,_=>rfl|6,_=>rfl|k+7,hk=>omega),i_,i_,i_,i_,i_,h_ [.row (lrow [[.val (.string (⟨#[51,48,47,51,54,48]⟩:ByteArray)), .fn (.func 110) [] []],[.val (.string (⟨#[51,48,101,47,51,54,48]⟩:ByteArray)), .fn (.func 142) [] [.ptr 3 0]],[.val (.string (⟨#[51,48,101,47,51,54,48,105,115,100,97]⟩:ByteArray)), .fn (.func 114) [] []],[.val (.string (⟨#[97,99,116,47,51,54,48]⟩:ByteArray)), .fn (.func 142) [] [.ptr 4 0]],[.val (.string (⟨#[97,99,116,47,51,54,53,102]⟩:ByteArray)), .fn (.func 142) [] [.ptr 5 0]],[.val (.string (⟨#[97,99,116,47,97,99,116]⟩:ByteArray)), .fn (.func 142) [] [.ptr 6 0]],[.val (.string (⟨#[97,99,116,47,97,99,116,105,99,109,97]⟩:ByteArray)), .fn (.func 119) [] []]])],f_ (show decide ((5:Int)<0)=false from rfl),f_ (show decide ((5:Int)<0)=false from rfl),f_ (show decide ((5:Int)<0)=false from rfl),f_ (show decide ((5:Int)<0)=false from rfl),f_ (show decide ((5:Int)<0)=false from rfl),f_ (show decide ((5:Int)≥7)=false from rfl),q_ (show(0:Int)≤5∧5<((7:Nat):Int)from by decide),q_ (re 7),q_ (show(0:Int)≤5∧5<((7:Nat):Int)from by decide),q_ (show(0:Int)≤5∧5<((7:Nat):Int)from by decide),d_ 11,c_ [0,6] (show S 142 [I a1,I a2, .agg [B a3,I a4,I a5, .sl 0 n6], .ptr 1 0] [ri n6 g7,some (.box false [.fn (.func 118) [] []])] (RT (r8Y a1 a2)) []from plainY)]
theorem cPart6_w {a1 a2:Int} {a3:Bool} {a4 a5:Int} {n6:Nat} {g7:Nat→Int} {res:SV} (H:RT (partR a1 a2 n6 g7 a5)=res):
  S 61 [I 6,I a1,I a2, .agg [B a3,I a4,I a5, .sl 0 n6]] [ri n6 g7] res []:=by
 refine SCall.st fun X hX=> ?_
 obtain rfl:=H
 exact hX.e [q_ (show ∀ k,k<7→(lrow [[.val (.string (⟨#[51,48,47,51,54,48]⟩:ByteArray)), .fn (.func 110) [] []],[.val (.string (⟨#[51,48,101,47,51,54,48]⟩:ByteArray)), .fn (.func 142) [] [.ptr 3 0]],[.val (.string (⟨#[51,48,101,47,51,54,48,105,115,100,97]⟩:ByteArray)), .fn (.func 114) [] []],[.val (.string (⟨#[97,99,116,47,51,54,48]⟩:ByteArray)), .fn (.func 142) [] [.ptr 4 0]],[.val (.string (⟨#[97,99,116,47,51,54,53,102]⟩:ByteArray)), .fn (.func 142) [] [.ptr 5 0]],[.val (.string (⟨#[97,99,116,47,97,99,116]⟩:ByteArray)), .fn (.func 142) [] [.ptr 6 0]],[.val (.string (⟨#[97,99,116,47,97,99,116,105,99,109,97]⟩:ByteArray)), .fn (.func 119) [] []]]) k=[[.val (.string (⟨#[51,48,47,51,54,48]⟩:ByteArray)), .fn (.func 110) [] []],[.val (.string (⟨#[51,48,101,47,51,54,48]⟩:ByteArray)), .fn (.func 142) [] [.ptr 3 0]],[.val (.string (⟨#[51,48,101,47,51,54,48,105,115,100,97]⟩:ByteArray)), .fn (.func 114) [] []],[.val (.string (⟨#[97,99,116,47,51,54,48]⟩:ByteArray)), .fn (.func 142) [] [.ptr 4 0]],[.val (.string (⟨#[97,99,116,47,51,54,53,102]⟩:ByteArray)), .fn (.func 142) [] [.ptr 5 0]],[.val (.string (⟨#[97,99,116,47,97,99,116]⟩:ByteArray)), .fn (.func 142) [] [.ptr 6 0]],[.val (.string (⟨#[97,99,116,47,97,99,116,105,99,109,97]⟩:ByteArray)), .fn (.func 119) [] []]].getD k []from by intro k hk;match k,hk with|0,_=>rfl|1,_=>rfl|2,_=>rfl|3,_=>rfl|4,_=>rfl|5,_=>rfl|6,_=>rfl|k+7,hk=>omega),i_,i_,i_,i_,i_,h_ [.row (lrow [[.val (.string (⟨#[51,48,47,51,54,48]⟩:ByteArray)), .fn (.func 110) [] []],[.val (.string (⟨#[51,48,101,47,51,54,48]⟩:ByteArray)), .fn (.func 142) [] [.ptr 3 0]],[.val (.string (⟨#[51,48,101,47,51,54,48,105,115,100,97]⟩:ByteArray)), .fn (.func 114) [] []],[.val (.string (⟨#[97,99,116,47,51,54,48]⟩:ByteArray)), .fn (.func 142) [] [.ptr 4 0]],[.val (.string (⟨#[97,99,116,47,51,54,53,102]⟩:ByteArray)), .fn (.func 142) [] [.ptr 5 0]],[.val (.string (⟨#[97,99,116,47,97,99,116]⟩:ByteArray)), .fn (.func 142) [] [.ptr 6 0]],[.val (.string (⟨#[97,99,116,47,97,99,116,105,99,109,97]⟩:ByteArray)), .fn (.func 119) [] []]])],f_ (show decide ((6:Int)<0)=false from rfl),f_ (show decide ((6:Int)<0)=false from rfl),f_ (show decide ((6:Int)<0)=false from rfl),f_ (show decide ((6:Int)<0)=false from rfl),f_ (show decide ((6:Int)<0)=false from rfl),f_ (show decide ((6:Int)≥7)=false from rfl),q_ (show(0:Int)≤6∧6<((7:Nat):Int)from by decide),q_ (re 7),q_ (show(0:Int)≤6∧6<((7:Nat):Int)from by decide),q_ (show(0:Int)≤6∧6<((7:Nat):Int)from by decide),d_ 11,c_ [0] (show S 119 [I a1,I a2, .agg [B a3,I a4,I a5, .sl 0 n6]] [ri n6 g7] (RT (partR a1 a2 n6 g7 a5)) []from ways3)]
theorem cPartX_w {a1 a2 a3:Int} {a4:Bool} {a5 a6:Int} {n7:Nat} {g8:Nat→Int} {res:SV} (H:(a1<0→(SV.tup [.agg [I 0,I 0],I 1])=res)∧(¬a1<0→(a1≥7→(SV.tup [.agg [I 0,I 0],I 1])=res)∧(¬a1≥7→((0:Int)≤a1∧a1<((7:Nat):Int))∧False))):
  S 61 [I a1,I a2,I a3, .agg [B a4,I a5,I a6, .sl 0 n7]] [ri n7 g8] res []:=by
 refine SCall.st fun X hX=> ?_
 obtain⟨H1,H2⟩:=H
 refine hX.go [q_ (show ∀ k,k<7→(lrow [[.val (.string (⟨#[51,48,47,51,54,48]⟩:ByteArray)), .fn (.func 110) [] []],[.val (.string (⟨#[51,48,101,47,51,54,48]⟩:ByteArray)), .fn (.func 142) [] [.ptr 3 0]],[.val (.string (⟨#[51,48,101,47,51,54,48,105,115,100,97]⟩:ByteArray)), .fn (.func 114) [] []],[.val (.string (⟨#[97,99,116,47,51,54,48]⟩:ByteArray)), .fn (.func 142) [] [.ptr 4 0]],[.val (.string (⟨#[97,99,116,47,51,54,53,102]⟩:ByteArray)), .fn (.func 142) [] [.ptr 5 0]],[.val (.string (⟨#[97,99,116,47,97,99,116]⟩:ByteArray)), .fn (.func 142) [] [.ptr 6 0]],[.val (.string (⟨#[97,99,116,47,97,99,116,105,99,109,97]⟩:ByteArray)), .fn (.func 119) [] []]]) k=[[.val (.string (⟨#[51,48,47,51,54,48]⟩:ByteArray)), .fn (.func 110) [] []],[.val (.string (⟨#[51,48,101,47,51,54,48]⟩:ByteArray)), .fn (.func 142) [] [.ptr 3 0]],[.val (.string (⟨#[51,48,101,47,51,54,48,105,115,100,97]⟩:ByteArray)), .fn (.func 114) [] []],[.val (.string (⟨#[97,99,116,47,51,54,48]⟩:ByteArray)), .fn (.func 142) [] [.ptr 4 0]],[.val (.string (⟨#[97,99,116,47,51,54,53,102]⟩:ByteArray)), .fn (.func 142) [] [.ptr 5 0]],[.val (.string (⟨#[97,99,116,47,97,99,116]⟩:ByteArray)), .fn (.func 142) [] [.ptr 6 0]],[.val (.string (⟨#[97,99,116,47,97,99,116,105,99,109,97]⟩:ByteArray)), .fn (.func 119) [] []]].getD k []from by intro k hk;match k,hk with|0,_=>rfl|1,_=>rfl|2,_=>rfl|3,_=>rfl|4,_=>rfl|5,_=>rfl|6,_=>rfl|k+7,hk=>omega),i_,i_,i_,i_,i_,h_ [.row (lrow [[.val (.string (⟨#[51,48,47,51,54,48]⟩:ByteArray)), .fn (.func 110) [] []],[.val (.string (⟨#[51,48,101,47,51,54,48]⟩:ByteArray)), .fn (.func 142) [] [.ptr 3 0]],[.val (.string (⟨#[51,48,101,47,51,54,48,105,115,100,97]⟩:ByteArray)), .fn (.func 114) [] []],[.val (.string (⟨#[97,99,116,47,51,54,48]⟩:ByteArray)), .fn (.func 142) [] [.ptr 4 0]],[.val (.string (⟨#[97,99,116,47,51,54,53,102]⟩:ByteArray)), .fn (.func 142) [] [.ptr 5 0]],[.val (.string (⟨#[97,99,116,47,97,99,116]⟩:ByteArray)), .fn (.func 142) [] [.ptr 6 0]],[.val (.string (⟨#[97,99,116,47,97,99,116,105,99,109,97]⟩:ByteArray)), .fn (.func 119) [] []]])]] ?_
 by_cases h0:a1<0
 ·obtain rfl:=H1 h0
  exact hX.e [t_ (dt h0),t_ (dt h0),t_ (dt h0),t_ (dt h0),t_ (dt h0),t_ rt]
 ·obtain⟨H1,H2⟩:=H2 h0
  refine hX.go [f_ (df h0),f_ (df h0),f_ (df h0),f_ (df h0),f_ (df h0)] ?_
  by_cases h1:a1≥7
  ·obtain rfl:=H1 h1
   exact hX.e [t_ (dt h1)]
  ·obtain⟨h2,H⟩:=H2 h1
   exact H.elim
theorem demurrageref10_Part_w {a1 a2 a3:Int} {a4:Bool} {a5 a6:Int} {n7:Nat} {g8:Nat→Int} {res:SV} (H:(a1=0→RT (r7US a2 a3 a4)=res)∧(a1≠0→(a1=1→RT (r7E a2 a3)=res)∧(a1≠1→(a1=2→RT (r7Isda a2 a3 a5)=res)∧(a1≠2→(a1=3→RT (r8 a2 a3 360)=res)∧(a1≠3→(a1=4→RT (r8 a2 a3 365)=res)∧(a1≠4→(a1=5→RT (r8Y a2 a3)=res)∧(a1≠5→(a1=6→RT (partR a2 a3 n7 g8 a6)=res)∧(a1≠6→(SV.tup [.agg [I 0,I 0],I 1])=res)))))))):
  S 19 [I a1,I a2,I a3, .agg [B a4,I a5,I a6, .sl 0 n7]] [ri n7 g8] res []:=by
 refine SCall.st fun X hX=> ?_
 obtain⟨H1,H2⟩:=H
 by_cases h0:a1=0
 ·obtain rfl:=H1 h0
  exact hX.e [t_ (beq_iff_eq.2 h0),c_ [] (show S 48 [I a2,I a3,B a4] [] (RT (r7US a2 a3 a4)) []from ref7US _ _ _)]
 ·obtain⟨H1,H2⟩:=H2 h0
  refine hX.go [f_ (beq_eq_false_iff_ne.2 h0)] ?_
  by_cases h1:a1=1
  ·obtain rfl:=H1 h1
   exact hX.e [t_ (beq_iff_eq.2 h1),c_ [] (show S 49 [I a2,I a3] [] (RT (r7E a2 a3)) []from ref7E _ _)]
  ·obtain⟨H1,H2⟩:=H2 h1
   refine hX.go [f_ (beq_eq_false_iff_ne.2 h1)] ?_
   by_cases h2:a1=2
   ·obtain rfl:=H1 h2
    exact hX.e [t_ (beq_iff_eq.2 h2),c_ [] (show S 50 [I a2,I a3,I a5] [] (RT (r7Isda a2 a3 a5)) []from ref7Isda _ _ _)]
   ·obtain⟨H1,H2⟩:=H2 h2
    refine hX.go [f_ (beq_eq_false_iff_ne.2 h2)] ?_
    by_cases h3:a1=3
    ·obtain rfl:=H1 h3
     exact hX.e [t_ (beq_iff_eq.2 h3),c_ [] (ref8By360 a2 a3)]
    ·obtain⟨H1,H2⟩:=H2 h3
     refine hX.go [f_ (beq_eq_false_iff_ne.2 h3)] ?_
     by_cases h4:a1=4
     ·obtain rfl:=H1 h4
      exact hX.e [t_ (beq_iff_eq.2 h4),c_ [] (ref8By365 a2 a3)]
     ·obtain⟨H1,H2⟩:=H2 h4
      refine hX.go [f_ (beq_eq_false_iff_ne.2 h4)] ?_
      by_cases h5:a1=5
      ·obtain rfl:=H1 h5
       exact hX.e [t_ (beq_iff_eq.2 h5),c_ [] (ref8ByYears a2 a3)]
      ·obtain⟨H1,H2⟩:=H2 h5
       refine hX.go [f_ (beq_eq_false_iff_ne.2 h5)] ?_
       by_cases h6:a1=6
       ·obtain rfl:=H1 h6
        exact hX.e [t_ (beq_iff_eq.2 h6),c_ [0] (show S 54 [I a2,I a3, .sl 0 n7,I a6] [ri n7 g8] (RT (partR a2 a3 n7 g8 a6)) []from rpart)]
       ·obtain rfl:=H2 h6
        exact hX.e [f_ (beq_eq_false_iff_ne.2 h6)]
theorem cPart (k a b:Int) {eom:Bool} {e f:Int} {n:Nat} {g:Nat→Int}:S 61 [I k,I a,I b, .agg [B eom,I e,I f, .sl 0 n]] [ri n g] (RT (partC k a b eom e f n g)) []:=by
 by_cases h:k<0∨k≥7
 ·have e1:partC k a b eom e f n g=(0,0,1):=by
   unfold partC;rw[if_neg (by omega),if_neg (by omega),if_neg (by omega),if_neg (by omega),if_neg (by omega),if_neg (by omega),if_neg (by omega)]
  rw[e1]
  exact cPartX_w ⟨fun _=>rfl,fun h1=>⟨fun _=>rfl,fun h2=>by omega⟩⟩
 ·have:k=0∨k=1∨k=2∨k=3∨k=4∨k=5∨k=6:=by omega
  rcases this with rfl|rfl|rfl|rfl|rfl|rfl|rfl
  ·exact cPart0_w rfl
  ·exact cPart1_w rfl
  ·exact cPart2_w rfl
  ·exact cPart3_w rfl
  ·exact cPart4_w rfl
  ·exact cPart5_w rfl
  ·exact cPart6_w rfl
theorem rPart (k a b:Int) {eom:Bool} {e f:Int} {n:Nat} {g:Nat→Int}:S 19 [I k,I a,I b, .agg [B eom,I e,I f, .sl 0 n]] [ri n g] (RT (partC k a b eom e f n g)) []:=
 demurrageref10_Part_w ⟨fun h0=>by subst h0;rfl,fun h0=>⟨fun h1=>by subst h1;rfl,fun h1=>⟨fun h2=>by subst h2;rfl,fun h2=>⟨fun h3=>by subst h3;rfl,fun h3=>⟨fun h4=>by subst h4;rfl,fun h4=>⟨fun h5=>by subst h5;rfl,fun h5=>⟨fun h6=>by subst h6;rfl,fun h6=>by simp only[partC,h0,h1,h2,h3,h4,h5,h6,if_true,if_false,Bool.false_eq_true]⟩⟩⟩⟩⟩⟩⟩
end Go.Proofs.YtgojmodiaffcbaaGreatDoor
