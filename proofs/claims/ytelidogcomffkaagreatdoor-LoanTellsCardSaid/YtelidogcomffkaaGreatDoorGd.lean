/-
A loan's steps, as the program finds them (chapter 16): a range over a function.
-/
import Derived.Test.YtelidogcomffkaaGreatDoorRu
import Derived.Test.YtelidogcomffkaaGreatDoorPt
import Derived.Test.YtelidogcomffkaaGreatDoorIsf
import Derived.Test.YtelidogcomffkaaGreatDoorProg
import Derived.KernelRfl
import Derived.Laws.Externs
import Derived.WalkKit
import Derived.LaidEql
import Derived.Stop.Asserts
import Derived.RowKitTokens
import Derived.Deep.WholeRow
import Derived.MapKept
set_option linter.unusedSectionVars false
set_option linter.unusedSimpArgs false
set_option linter.unusedVariables false
set_option maxRecDepth 100000
namespace Go.Proofs.YtelidogcomffkaaGreatDoor
open Go Go.Sx
variable [Env]
def Hg (k:Int):ByteArray:=if k=0 then(⟨#[51,48,47,51,54,48]⟩:ByteArray)else if k=1 then(⟨#[51,48,101,47,51,54,48]⟩:ByteArray)else if k=2 then(⟨#[51,48,101,47,51,54,48,105,115,100,97]⟩:ByteArray)else if k=3 then(⟨#[97,99,116,47,51,54,48]⟩:ByteArray)else if k=4 then(⟨#[97,99,116,47,51,54,53,102]⟩:ByteArray)else if k=5 then(⟨#[97,99,116,47,97,99,116]⟩:ByteArray)else if k=6 then(⟨#[97,99,116,47,97,99,116,105,99,109,97]⟩:ByteArray)else(⟨#[]⟩:ByteArray)
theorem E9 {res:SV} (H:(SV.val (.string (⟨#[51,48,47,51,54,48]⟩:ByteArray)))=res):
  S 169 [I 0] [] res []:=by
 refine ab.st fun X hX=> ?_
 obtain rfl:=H
 exact hX.e [q_ (show ∀ k,k<7→(a_ [[.val (.string (⟨#[51,48,47,51,54,48]⟩:ByteArray)), .fn (.func 141) [] []],[.val (.string (⟨#[51,48,101,47,51,54,48]⟩:ByteArray)), .fn (.func 185) [] [.ptr 0 0]],[.val (.string (⟨#[51,48,101,47,51,54,48,105,115,100,97]⟩:ByteArray)), .fn (.func 145) [] []],[.val (.string (⟨#[97,99,116,47,51,54,48]⟩:ByteArray)), .fn (.func 185) [] [.ptr 1 0]],[.val (.string (⟨#[97,99,116,47,51,54,53,102]⟩:ByteArray)), .fn (.func 185) [] [.ptr 2 0]],[.val (.string (⟨#[97,99,116,47,97,99,116]⟩:ByteArray)), .fn (.func 185) [] [.ptr 3 0]],[.val (.string (⟨#[97,99,116,47,97,99,116,105,99,109,97]⟩:ByteArray)), .fn (.func 150) [] []]]) k=[[.val (.string (⟨#[51,48,47,51,54,48]⟩:ByteArray)), .fn (.func 141) [] []],[.val (.string (⟨#[51,48,101,47,51,54,48]⟩:ByteArray)), .fn (.func 185) [] [.ptr 0 0]],[.val (.string (⟨#[51,48,101,47,51,54,48,105,115,100,97]⟩:ByteArray)), .fn (.func 145) [] []],[.val (.string (⟨#[97,99,116,47,51,54,48]⟩:ByteArray)), .fn (.func 185) [] [.ptr 1 0]],[.val (.string (⟨#[97,99,116,47,51,54,53,102]⟩:ByteArray)), .fn (.func 185) [] [.ptr 2 0]],[.val (.string (⟨#[97,99,116,47,97,99,116]⟩:ByteArray)), .fn (.func 185) [] [.ptr 3 0]],[.val (.string (⟨#[97,99,116,47,97,99,116,105,99,109,97]⟩:ByteArray)), .fn (.func 150) [] []]].getD k []from by intro k hk;match k,hk with|0,_=>rfl|1,_=>rfl|2,_=>rfl|3,_=>rfl|4,_=>rfl|5,_=>rfl|6,_=>rfl|k+7,hk=>omega),i_,i_,i_,i_,i_,h_ [.row (a_ [[.val (.string (⟨#[51,48,47,51,54,48]⟩:ByteArray)), .fn (.func 141) [] []],[.val (.string (⟨#[51,48,101,47,51,54,48]⟩:ByteArray)), .fn (.func 185) [] [.ptr 0 0]],[.val (.string (⟨#[51,48,101,47,51,54,48,105,115,100,97]⟩:ByteArray)), .fn (.func 145) [] []],[.val (.string (⟨#[97,99,116,47,51,54,48]⟩:ByteArray)), .fn (.func 185) [] [.ptr 1 0]],[.val (.string (⟨#[97,99,116,47,51,54,53,102]⟩:ByteArray)), .fn (.func 185) [] [.ptr 2 0]],[.val (.string (⟨#[97,99,116,47,97,99,116]⟩:ByteArray)), .fn (.func 185) [] [.ptr 3 0]],[.val (.string (⟨#[97,99,116,47,97,99,116,105,99,109,97]⟩:ByteArray)), .fn (.func 150) [] []]])],t_ rt,t_ rt,t_ rt,t_ rt,t_ rt,t_ rt,q_ (show(0:Int)≤0∧0<((7:Nat):Int)from by decide),q_ (re 7),q_ (show(0:Int)≤0∧0<((7:Nat):Int)from by decide),q_ (show(0:Int)≤0∧0<((7:Nat):Int)from by decide)]
theorem E8 {res:SV} (H:(SV.val (.string (⟨#[51,48,101,47,51,54,48]⟩:ByteArray)))=res):
  S 169 [I 1] [] res []:=by
 refine ab.st fun X hX=> ?_
 obtain rfl:=H
 exact hX.e [q_ (show ∀ k,k<7→(a_ [[.val (.string (⟨#[51,48,47,51,54,48]⟩:ByteArray)), .fn (.func 141) [] []],[.val (.string (⟨#[51,48,101,47,51,54,48]⟩:ByteArray)), .fn (.func 185) [] [.ptr 0 0]],[.val (.string (⟨#[51,48,101,47,51,54,48,105,115,100,97]⟩:ByteArray)), .fn (.func 145) [] []],[.val (.string (⟨#[97,99,116,47,51,54,48]⟩:ByteArray)), .fn (.func 185) [] [.ptr 1 0]],[.val (.string (⟨#[97,99,116,47,51,54,53,102]⟩:ByteArray)), .fn (.func 185) [] [.ptr 2 0]],[.val (.string (⟨#[97,99,116,47,97,99,116]⟩:ByteArray)), .fn (.func 185) [] [.ptr 3 0]],[.val (.string (⟨#[97,99,116,47,97,99,116,105,99,109,97]⟩:ByteArray)), .fn (.func 150) [] []]]) k=[[.val (.string (⟨#[51,48,47,51,54,48]⟩:ByteArray)), .fn (.func 141) [] []],[.val (.string (⟨#[51,48,101,47,51,54,48]⟩:ByteArray)), .fn (.func 185) [] [.ptr 0 0]],[.val (.string (⟨#[51,48,101,47,51,54,48,105,115,100,97]⟩:ByteArray)), .fn (.func 145) [] []],[.val (.string (⟨#[97,99,116,47,51,54,48]⟩:ByteArray)), .fn (.func 185) [] [.ptr 1 0]],[.val (.string (⟨#[97,99,116,47,51,54,53,102]⟩:ByteArray)), .fn (.func 185) [] [.ptr 2 0]],[.val (.string (⟨#[97,99,116,47,97,99,116]⟩:ByteArray)), .fn (.func 185) [] [.ptr 3 0]],[.val (.string (⟨#[97,99,116,47,97,99,116,105,99,109,97]⟩:ByteArray)), .fn (.func 150) [] []]].getD k []from by intro k hk;match k,hk with|0,_=>rfl|1,_=>rfl|2,_=>rfl|3,_=>rfl|4,_=>rfl|5,_=>rfl|6,_=>rfl|k+7,hk=>omega),i_,i_,i_,i_,i_,h_ [.row (a_ [[.val (.string (⟨#[51,48,47,51,54,48]⟩:ByteArray)), .fn (.func 141) [] []],[.val (.string (⟨#[51,48,101,47,51,54,48]⟩:ByteArray)), .fn (.func 185) [] [.ptr 0 0]],[.val (.string (⟨#[51,48,101,47,51,54,48,105,115,100,97]⟩:ByteArray)), .fn (.func 145) [] []],[.val (.string (⟨#[97,99,116,47,51,54,48]⟩:ByteArray)), .fn (.func 185) [] [.ptr 1 0]],[.val (.string (⟨#[97,99,116,47,51,54,53,102]⟩:ByteArray)), .fn (.func 185) [] [.ptr 2 0]],[.val (.string (⟨#[97,99,116,47,97,99,116]⟩:ByteArray)), .fn (.func 185) [] [.ptr 3 0]],[.val (.string (⟨#[97,99,116,47,97,99,116,105,99,109,97]⟩:ByteArray)), .fn (.func 150) [] []]])],t_ rt,t_ rt,t_ rt,t_ rt,t_ rt,t_ rt,q_ (show(0:Int)≤1∧1<((7:Nat):Int)from by decide),q_ (re 7),q_ (show(0:Int)≤1∧1<((7:Nat):Int)from by decide),q_ (show(0:Int)≤1∧1<((7:Nat):Int)from by decide)]
theorem E7 {res:SV} (H:(SV.val (.string (⟨#[51,48,101,47,51,54,48,105,115,100,97]⟩:ByteArray)))=res):
  S 169 [I 2] [] res []:=by
 refine ab.st fun X hX=> ?_
 obtain rfl:=H
 exact hX.e [q_ (show ∀ k,k<7→(a_ [[.val (.string (⟨#[51,48,47,51,54,48]⟩:ByteArray)), .fn (.func 141) [] []],[.val (.string (⟨#[51,48,101,47,51,54,48]⟩:ByteArray)), .fn (.func 185) [] [.ptr 0 0]],[.val (.string (⟨#[51,48,101,47,51,54,48,105,115,100,97]⟩:ByteArray)), .fn (.func 145) [] []],[.val (.string (⟨#[97,99,116,47,51,54,48]⟩:ByteArray)), .fn (.func 185) [] [.ptr 1 0]],[.val (.string (⟨#[97,99,116,47,51,54,53,102]⟩:ByteArray)), .fn (.func 185) [] [.ptr 2 0]],[.val (.string (⟨#[97,99,116,47,97,99,116]⟩:ByteArray)), .fn (.func 185) [] [.ptr 3 0]],[.val (.string (⟨#[97,99,116,47,97,99,116,105,99,109,97]⟩:ByteArray)), .fn (.func 150) [] []]]) k=[[.val (.string (⟨#[51,48,47,51,54,48]⟩:ByteArray)), .fn (.func 141) [] []],[.val (.string (⟨#[51,48,101,47,51,54,48]⟩:ByteArray)), .fn (.func 185) [] [.ptr 0 0]],[.val (.string (⟨#[51,48,101,47,51,54,48,105,115,100,97]⟩:ByteArray)), .fn (.func 145) [] []],[.val (.string (⟨#[97,99,116,47,51,54,48]⟩:ByteArray)), .fn (.func 185) [] [.ptr 1 0]],[.val (.string (⟨#[97,99,116,47,51,54,53,102]⟩:ByteArray)), .fn (.func 185) [] [.ptr 2 0]],[.val (.string (⟨#[97,99,116,47,97,99,116]⟩:ByteArray)), .fn (.func 185) [] [.ptr 3 0]],[.val (.string (⟨#[97,99,116,47,97,99,116,105,99,109,97]⟩:ByteArray)), .fn (.func 150) [] []]].getD k []from by intro k hk;match k,hk with|0,_=>rfl|1,_=>rfl|2,_=>rfl|3,_=>rfl|4,_=>rfl|5,_=>rfl|6,_=>rfl|k+7,hk=>omega),i_,i_,i_,i_,i_,h_ [.row (a_ [[.val (.string (⟨#[51,48,47,51,54,48]⟩:ByteArray)), .fn (.func 141) [] []],[.val (.string (⟨#[51,48,101,47,51,54,48]⟩:ByteArray)), .fn (.func 185) [] [.ptr 0 0]],[.val (.string (⟨#[51,48,101,47,51,54,48,105,115,100,97]⟩:ByteArray)), .fn (.func 145) [] []],[.val (.string (⟨#[97,99,116,47,51,54,48]⟩:ByteArray)), .fn (.func 185) [] [.ptr 1 0]],[.val (.string (⟨#[97,99,116,47,51,54,53,102]⟩:ByteArray)), .fn (.func 185) [] [.ptr 2 0]],[.val (.string (⟨#[97,99,116,47,97,99,116]⟩:ByteArray)), .fn (.func 185) [] [.ptr 3 0]],[.val (.string (⟨#[97,99,116,47,97,99,116,105,99,109,97]⟩:ByteArray)), .fn (.func 150) [] []]])],t_ rt,t_ rt,t_ rt,t_ rt,t_ rt,t_ rt,q_ (show(0:Int)≤2∧2<((7:Nat):Int)from by decide),q_ (re 7),q_ (show(0:Int)≤2∧2<((7:Nat):Int)from by decide),q_ (show(0:Int)≤2∧2<((7:Nat):Int)from by decide)]
theorem E6 {res:SV} (H:(SV.val (.string (⟨#[97,99,116,47,51,54,48]⟩:ByteArray)))=res):
  S 169 [I 3] [] res []:=by
 refine ab.st fun X hX=> ?_
 obtain rfl:=H
 exact hX.e [q_ (show ∀ k,k<7→(a_ [[.val (.string (⟨#[51,48,47,51,54,48]⟩:ByteArray)), .fn (.func 141) [] []],[.val (.string (⟨#[51,48,101,47,51,54,48]⟩:ByteArray)), .fn (.func 185) [] [.ptr 0 0]],[.val (.string (⟨#[51,48,101,47,51,54,48,105,115,100,97]⟩:ByteArray)), .fn (.func 145) [] []],[.val (.string (⟨#[97,99,116,47,51,54,48]⟩:ByteArray)), .fn (.func 185) [] [.ptr 1 0]],[.val (.string (⟨#[97,99,116,47,51,54,53,102]⟩:ByteArray)), .fn (.func 185) [] [.ptr 2 0]],[.val (.string (⟨#[97,99,116,47,97,99,116]⟩:ByteArray)), .fn (.func 185) [] [.ptr 3 0]],[.val (.string (⟨#[97,99,116,47,97,99,116,105,99,109,97]⟩:ByteArray)), .fn (.func 150) [] []]]) k=[[.val (.string (⟨#[51,48,47,51,54,48]⟩:ByteArray)), .fn (.func 141) [] []],[.val (.string (⟨#[51,48,101,47,51,54,48]⟩:ByteArray)), .fn (.func 185) [] [.ptr 0 0]],[.val (.string (⟨#[51,48,101,47,51,54,48,105,115,100,97]⟩:ByteArray)), .fn (.func 145) [] []],[.val (.string (⟨#[97,99,116,47,51,54,48]⟩:ByteArray)), .fn (.func 185) [] [.ptr 1 0]],[.val (.string (⟨#[97,99,116,47,51,54,53,102]⟩:ByteArray)), .fn (.func 185) [] [.ptr 2 0]],[.val (.string (⟨#[97,99,116,47,97,99,116]⟩:ByteArray)), .fn (.func 185) [] [.ptr 3 0]],[.val (.string (⟨#[97,99,116,47,97,99,116,105,99,109,97]⟩:ByteArray)), .fn (.func 150) [] []]].getD k []from by intro k hk;match k,hk with|0,_=>rfl|1,_=>rfl|2,_=>rfl|3,_=>rfl|4,_=>rfl|5,_=>rfl|6,_=>rfl|k+7,hk=>omega),i_,i_,i_,i_,i_,h_ [.row (a_ [[.val (.string (⟨#[51,48,47,51,54,48]⟩:ByteArray)), .fn (.func 141) [] []],[.val (.string (⟨#[51,48,101,47,51,54,48]⟩:ByteArray)), .fn (.func 185) [] [.ptr 0 0]],[.val (.string (⟨#[51,48,101,47,51,54,48,105,115,100,97]⟩:ByteArray)), .fn (.func 145) [] []],[.val (.string (⟨#[97,99,116,47,51,54,48]⟩:ByteArray)), .fn (.func 185) [] [.ptr 1 0]],[.val (.string (⟨#[97,99,116,47,51,54,53,102]⟩:ByteArray)), .fn (.func 185) [] [.ptr 2 0]],[.val (.string (⟨#[97,99,116,47,97,99,116]⟩:ByteArray)), .fn (.func 185) [] [.ptr 3 0]],[.val (.string (⟨#[97,99,116,47,97,99,116,105,99,109,97]⟩:ByteArray)), .fn (.func 150) [] []]])],t_ rt,t_ rt,t_ rt,t_ rt,t_ rt,t_ rt,q_ (show(0:Int)≤3∧3<((7:Nat):Int)from by decide),q_ (re 7),q_ (show(0:Int)≤3∧3<((7:Nat):Int)from by decide),q_ (show(0:Int)≤3∧3<((7:Nat):Int)from by decide)]
theorem E5 {res:SV} (H:(SV.val (.string (⟨#[97,99,116,47,51,54,53,102]⟩:ByteArray)))=res):
  S 169 [I 4] [] res []:=by
 refine ab.st fun X hX=> ?_
 obtain rfl:=H
 exact hX.e [q_ (show ∀ k,k<7→(a_ [[.val (.string (⟨#[51,48,47,51,54,48]⟩:ByteArray)), .fn (.func 141) [] []],[.val (.string (⟨#[51,48,101,47,51,54,48]⟩:ByteArray)), .fn (.func 185) [] [.ptr 0 0]],[.val (.string (⟨#[51,48,101,47,51,54,48,105,115,100,97]⟩:ByteArray)), .fn (.func 145) [] []],[.val (.string (⟨#[97,99,116,47,51,54,48]⟩:ByteArray)), .fn (.func 185) [] [.ptr 1 0]],[.val (.string (⟨#[97,99,116,47,51,54,53,102]⟩:ByteArray)), .fn (.func 185) [] [.ptr 2 0]],[.val (.string (⟨#[97,99,116,47,97,99,116]⟩:ByteArray)), .fn (.func 185) [] [.ptr 3 0]],[.val (.string (⟨#[97,99,116,47,97,99,116,105,99,109,97]⟩:ByteArray)), .fn (.func 150) [] []]]) k=[[.val (.string (⟨#[51,48,47,51,54,48]⟩:ByteArray)), .fn (.func 141) [] []],[.val (.string (⟨#[51,48,101,47,51,54,48]⟩:ByteArray)), .fn (.func 185) [] [.ptr 0 0]],[.val (.string (⟨#[51,48,101,47,51,54,48,105,115,100,97]⟩:ByteArray)), .fn (.func 145) [] []],[.val (.string (⟨#[97,99,116,47,51,54,48]⟩:ByteArray)), .fn (.func 185) [] [.ptr 1 0]],[.val (.string (⟨#[97,99,116,47,51,54,53,102]⟩:ByteArray)), .fn (.func 185) [] [.ptr 2 0]],[.val (.string (⟨#[97,99,116,47,97,99,116]⟩:ByteArray)), .fn (.func 185) [] [.ptr 3 0]],[.val (.string (⟨#[97,99,116,47,97,99,116,105,99,109,97]⟩:ByteArray)), .fn (.func 150) [] []]].getD k []from by intro k hk;match k,hk with|0,_=>rfl|1,_=>rfl|2,_=>rfl|3,_=>rfl|4,_=>rfl|5,_=>rfl|6,_=>rfl|k+7,hk=>omega),i_,i_,i_,i_,i_,h_ [.row (a_ [[.val (.string (⟨#[51,48,47,51,54,48]⟩:ByteArray)), .fn (.func 141) [] []],[.val (.string (⟨#[51,48,101,47,51,54,48]⟩:ByteArray)), .fn (.func 185) [] [.ptr 0 0]],[.val (.string (⟨#[51,48,101,47,51,54,48,105,115,100,97]⟩:ByteArray)), .fn (.func 145) [] []],[.val (.string (⟨#[97,99,116,47,51,54,48]⟩:ByteArray)), .fn (.func 185) [] [.ptr 1 0]],[.val (.string (⟨#[97,99,116,47,51,54,53,102]⟩:ByteArray)), .fn (.func 185) [] [.ptr 2 0]],[.val (.string (⟨#[97,99,116,47,97,99,116]⟩:ByteArray)), .fn (.func 185) [] [.ptr 3 0]],[.val (.string (⟨#[97,99,116,47,97,99,116,105,99,109,97]⟩:ByteArray)), .fn (.func 150) [] []]])],t_ rt,t_ rt,t_ rt,t_ rt,t_ rt,t_ rt,q_ (show(0:Int)≤4∧4<((7:Nat):Int)from by decide),q_ (re 7),q_ (show(0:Int)≤4∧4<((7:Nat):Int)from by decide),q_ (show(0:Int)≤4∧4<((7:Nat):Int)from by decide)]
theorem E4 {res:SV} (H:(SV.val (.string (⟨#[97,99,116,47,97,99,116]⟩:ByteArray)))=res):
  S 169 [I 5] [] res []:=by
 refine ab.st fun X hX=> ?_
 obtain rfl:=H
 exact hX.e [q_ (show ∀ k,k<7→(a_ [[.val (.string (⟨#[51,48,47,51,54,48]⟩:ByteArray)), .fn (.func 141) [] []],[.val (.string (⟨#[51,48,101,47,51,54,48]⟩:ByteArray)), .fn (.func 185) [] [.ptr 0 0]],[.val (.string (⟨#[51,48,101,47,51,54,48,105,115,100,97]⟩:ByteArray)), .fn (.func 145) [] []],[.val (.string (⟨#[97,99,116,47,51,54,48]⟩:ByteArray)), .fn (.func 185) [] [.ptr 1 0]],[.val (.string (⟨#[97,99,116,47,51,54,53,102]⟩:ByteArray)), .fn (.func 185) [] [.ptr 2 0]],[.val (.string (⟨#[97,99,116,47,97,99,116]⟩:ByteArray)), .fn (.func 185) [] [.ptr 3 0]],[.val (.string (⟨#[97,99,116,47,97,99,116,105,99,109,97]⟩:ByteArray)), .fn (.func 150) [] []]]) k=[[.val (.string (⟨#[51,48,47,51,54,48]⟩:ByteArray)), .fn (.func 141) [] []],[.val (.string (⟨#[51,48,101,47,51,54,48]⟩:ByteArray)), .fn (.func 185) [] [.ptr 0 0]],[.val (.string (⟨#[51,48,101,47,51,54,48,105,115,100,97]⟩:ByteArray)), .fn (.func 145) [] []],[.val (.string (⟨#[97,99,116,47,51,54,48]⟩:ByteArray)), .fn (.func 185) [] [.ptr 1 0]],[.val (.string (⟨#[97,99,116,47,51,54,53,102]⟩:ByteArray)), .fn (.func 185) [] [.ptr 2 0]],[.val (.string (⟨#[97,99,116,47,97,99,116]⟩:ByteArray)), .fn (.func 185) [] [.ptr 3 0]],[.val (.string (⟨#[97,99,116,47,97,99,116,105,99,109,97]⟩:ByteArray)), .fn (.func 150) [] []]].getD k []from by intro k hk;match k,hk with|0,_=>rfl|1,_=>rfl|2,_=>rfl|3,_=>rfl|4,_=>rfl|5,_=>rfl|6,_=>rfl|k+7,hk=>omega),i_,i_,i_,i_,i_,h_ [.row (a_ [[.val (.string (⟨#[51,48,47,51,54,48]⟩:ByteArray)), .fn (.func 141) [] []],[.val (.string (⟨#[51,48,101,47,51,54,48]⟩:ByteArray)), .fn (.func 185) [] [.ptr 0 0]],[.val (.string (⟨#[51,48,101,47,51,54,48,105,115,100,97]⟩:ByteArray)), .fn (.func 145) [] []],[.val (.string (⟨#[97,99,116,47,51,54,48]⟩:ByteArray)), .fn (.func 185) [] [.ptr 1 0]],[.val (.string (⟨#[97,99,116,47,51,54,53,102]⟩:ByteArray)), .fn (.func 185) [] [.ptr 2 0]],[.val (.string (⟨#[97,99,116,47,97,99,116]⟩:ByteArray)), .fn (.func 185) [] [.ptr 3 0]],[.val (.string (⟨#[97,99,116,47,97,99,116,105,99,109,97]⟩:ByteArray)), .fn (.func 150) [] []]])],t_ rt,t_ rt,t_ rt,t_ rt,t_ rt,t_ rt,q_ (show(0:Int)≤5∧5<((7:Nat):Int)from by decide),q_ (re 7),q_ (show(0:Int)≤5∧5<((7:Nat):Int)from by decide),q_ (show(0:Int)≤5∧5<((7:Nat):Int)from by decide)]
theorem E3 {res:SV} (H:(SV.val (.string (⟨#[97,99,116,47,97,99,116,105,99,109,97]⟩:ByteArray)))=res):
  S 169 [I 6] [] res []:=by
 refine ab.st fun X hX=> ?_
 obtain rfl:=H
 exact hX.e [q_ (show ∀ k,k<7→(a_ [[.val (.string (⟨#[51,48,47,51,54,48]⟩:ByteArray)), .fn (.func 141) [] []],[.val (.string (⟨#[51,48,101,47,51,54,48]⟩:ByteArray)), .fn (.func 185) [] [.ptr 0 0]],[.val (.string (⟨#[51,48,101,47,51,54,48,105,115,100,97]⟩:ByteArray)), .fn (.func 145) [] []],[.val (.string (⟨#[97,99,116,47,51,54,48]⟩:ByteArray)), .fn (.func 185) [] [.ptr 1 0]],[.val (.string (⟨#[97,99,116,47,51,54,53,102]⟩:ByteArray)), .fn (.func 185) [] [.ptr 2 0]],[.val (.string (⟨#[97,99,116,47,97,99,116]⟩:ByteArray)), .fn (.func 185) [] [.ptr 3 0]],[.val (.string (⟨#[97,99,116,47,97,99,116,105,99,109,97]⟩:ByteArray)), .fn (.func 150) [] []]]) k=[[.val (.string (⟨#[51,48,47,51,54,48]⟩:ByteArray)), .fn (.func 141) [] []],[.val (.string (⟨#[51,48,101,47,51,54,48]⟩:ByteArray)), .fn (.func 185) [] [.ptr 0 0]],[.val (.string (⟨#[51,48,101,47,51,54,48,105,115,100,97]⟩:ByteArray)), .fn (.func 145) [] []],[.val (.string (⟨#[97,99,116,47,51,54,48]⟩:ByteArray)), .fn (.func 185) [] [.ptr 1 0]],[.val (.string (⟨#[97,99,116,47,51,54,53,102]⟩:ByteArray)), .fn (.func 185) [] [.ptr 2 0]],[.val (.string (⟨#[97,99,116,47,97,99,116]⟩:ByteArray)), .fn (.func 185) [] [.ptr 3 0]],[.val (.string (⟨#[97,99,116,47,97,99,116,105,99,109,97]⟩:ByteArray)), .fn (.func 150) [] []]].getD k []from by intro k hk;match k,hk with|0,_=>rfl|1,_=>rfl|2,_=>rfl|3,_=>rfl|4,_=>rfl|5,_=>rfl|6,_=>rfl|k+7,hk=>omega),i_,i_,i_,i_,i_,h_ [.row (a_ [[.val (.string (⟨#[51,48,47,51,54,48]⟩:ByteArray)), .fn (.func 141) [] []],[.val (.string (⟨#[51,48,101,47,51,54,48]⟩:ByteArray)), .fn (.func 185) [] [.ptr 0 0]],[.val (.string (⟨#[51,48,101,47,51,54,48,105,115,100,97]⟩:ByteArray)), .fn (.func 145) [] []],[.val (.string (⟨#[97,99,116,47,51,54,48]⟩:ByteArray)), .fn (.func 185) [] [.ptr 1 0]],[.val (.string (⟨#[97,99,116,47,51,54,53,102]⟩:ByteArray)), .fn (.func 185) [] [.ptr 2 0]],[.val (.string (⟨#[97,99,116,47,97,99,116]⟩:ByteArray)), .fn (.func 185) [] [.ptr 3 0]],[.val (.string (⟨#[97,99,116,47,97,99,116,105,99,109,97]⟩:ByteArray)), .fn (.func 150) [] []]])],t_ rt,t_ rt,t_ rt,t_ rt,t_ rt,t_ rt,q_ (show(0:Int)≤6∧6<((7:Nat):Int)from by decide),q_ (re 7),q_ (show(0:Int)≤6∧6<((7:Nat):Int)from by decide),q_ (show(0:Int)≤6∧6<((7:Nat):Int)from by decide)]
theorem E2 {a1:Int} {res:SV} (H:(a1≥0→(a1<7→((0:Int)≤a1∧a1<((7:Nat):Int))∧False)∧(¬a1<7→(SV.val (.string (⟨#[]⟩:ByteArray)))=res))∧(¬a1≥0→(SV.val (.string (⟨#[]⟩:ByteArray)))=res)):
  S 169 [I a1] [] res []:=by
 refine ab.st fun X hX=> ?_
 obtain⟨H1,H2⟩:=H
 refine hX.go [q_ (show ∀ k,k<7→(a_ [[.val (.string (⟨#[51,48,47,51,54,48]⟩:ByteArray)), .fn (.func 141) [] []],[.val (.string (⟨#[51,48,101,47,51,54,48]⟩:ByteArray)), .fn (.func 185) [] [.ptr 0 0]],[.val (.string (⟨#[51,48,101,47,51,54,48,105,115,100,97]⟩:ByteArray)), .fn (.func 145) [] []],[.val (.string (⟨#[97,99,116,47,51,54,48]⟩:ByteArray)), .fn (.func 185) [] [.ptr 1 0]],[.val (.string (⟨#[97,99,116,47,51,54,53,102]⟩:ByteArray)), .fn (.func 185) [] [.ptr 2 0]],[.val (.string (⟨#[97,99,116,47,97,99,116]⟩:ByteArray)), .fn (.func 185) [] [.ptr 3 0]],[.val (.string (⟨#[97,99,116,47,97,99,116,105,99,109,97]⟩:ByteArray)), .fn (.func 150) [] []]]) k=[[.val (.string (⟨#[51,48,47,51,54,48]⟩:ByteArray)), .fn (.func 141) [] []],[.val (.string (⟨#[51,48,101,47,51,54,48]⟩:ByteArray)), .fn (.func 185) [] [.ptr 0 0]],[.val (.string (⟨#[51,48,101,47,51,54,48,105,115,100,97]⟩:ByteArray)), .fn (.func 145) [] []],[.val (.string (⟨#[97,99,116,47,51,54,48]⟩:ByteArray)), .fn (.func 185) [] [.ptr 1 0]],[.val (.string (⟨#[97,99,116,47,51,54,53,102]⟩:ByteArray)), .fn (.func 185) [] [.ptr 2 0]],[.val (.string (⟨#[97,99,116,47,97,99,116]⟩:ByteArray)), .fn (.func 185) [] [.ptr 3 0]],[.val (.string (⟨#[97,99,116,47,97,99,116,105,99,109,97]⟩:ByteArray)), .fn (.func 150) [] []]].getD k []from by intro k hk;match k,hk with|0,_=>rfl|1,_=>rfl|2,_=>rfl|3,_=>rfl|4,_=>rfl|5,_=>rfl|6,_=>rfl|k+7,hk=>omega),i_,i_,i_,i_,i_,h_ [.row (a_ [[.val (.string (⟨#[51,48,47,51,54,48]⟩:ByteArray)), .fn (.func 141) [] []],[.val (.string (⟨#[51,48,101,47,51,54,48]⟩:ByteArray)), .fn (.func 185) [] [.ptr 0 0]],[.val (.string (⟨#[51,48,101,47,51,54,48,105,115,100,97]⟩:ByteArray)), .fn (.func 145) [] []],[.val (.string (⟨#[97,99,116,47,51,54,48]⟩:ByteArray)), .fn (.func 185) [] [.ptr 1 0]],[.val (.string (⟨#[97,99,116,47,51,54,53,102]⟩:ByteArray)), .fn (.func 185) [] [.ptr 2 0]],[.val (.string (⟨#[97,99,116,47,97,99,116]⟩:ByteArray)), .fn (.func 185) [] [.ptr 3 0]],[.val (.string (⟨#[97,99,116,47,97,99,116,105,99,109,97]⟩:ByteArray)), .fn (.func 150) [] []]])]] ?_
 by_cases h0:a1≥0
 ·obtain⟨H1,H2⟩:=H1 h0
  refine hX.go [t_ (dt h0),t_ (dt h0),t_ (dt h0),t_ (dt h0),t_ (dt h0)] ?_
  by_cases h1:a1<7
  ·simp_all
  ·obtain rfl:=H2 h1
   exact hX.e [f_ (df h1)]
 ·obtain rfl:=H2 h0
  exact hX.e [f_ (df h0),f_ (df h0),f_ (df h0),f_ (df h0),f_ (df h0),f_ rf]
theorem Kw (k:Int):S 169 [I k] [] (.val (.string (Hg k))) []:=by
 grind [E9,E8,E7,E6,E5,E4,E3,E2,Hg]
end Go.Proofs.YtelidogcomffkaaGreatDoor
namespace Go.Proofs.YtelidogcomffkaaGreatDoor
open Go Go.Sx Go.RowKit Go.Extern.Stop Go.Stop Go.Extern
theorem Gz (t:Value) (w:World):
  Calls Tryz.prog 138 #[.nilIface,t] w fun e w'=>e= .returned (.bool false)∧w'=w:=by
 go_enter Tryz.func138,Tryz.ntmps138
 go_wp2
 go_ret
 exact⟨rfl,rfl⟩
theorem gm.qG (t:Addr) (w:World):(ReflectliteValue.unpack (.iface 211 (.pointer (some t)))).run Tryz.prog w
  = .ok (.agg #[.pointer (some ⟨9,211,none⟩), .pointer (some ⟨w.heap.size,0,none⟩), .int .u64 150]) (w.alloc (.cells #[.pointer (some t)] 211)):=by kernel_rfl
theorem gm.type27 (a:Addr) (w:World):(ReflectliteValue.methodAny (ReflectliteValue.valueError "reflectlite.Value.Type" 0) (fun t _ _ _=>ReflectliteType.toType t) #[.agg #[.pointer (some ⟨9,211,none⟩), .pointer (some a), .int .u64 150]]).run Tryz.prog w
  = .ok (.iface 287 (.agg #[.pointer (some ⟨9,211,none⟩)])) w:=by kernel_rfl
theorem gm.pE (h:Value) (w:World):(Go.method 474 287 (.agg #[h]) "Kind").run Tryz.prog w= .ok (283,h) w:=by kernel_rfl
theorem gm.zP (w:World):((ReflectliteType.abiMethod fun t=>(fun a:Nat=>Value.int IntKind.u8 (a:Int)) <$> Rtype.kind t) #[.pointer (some ⟨9,211,none⟩)]).run Tryz.prog w= .ok (.int .u8 22) w:=by kernel_rfl
theorem gm.zQ (w:World):((ReflectliteType.abiMethod fun t=>(fun a:Nat=>Value.int IntKind.u8 (a:Int)) <$> Rtype.kind t) #[.pointer (some ⟨9,205,none⟩)]).run Tryz.prog w= .ok (.int .u8 25) w:=by kernel_rfl
theorem JZ (z:Sem Value) (f:TypeId→Addr→Nat→Nat→Sem Value) (v:Value):
  ReflectliteValue.method z f #[v]=(do match←ReflectliteValue.parts v with|none=>z|some (t,a,fl)=>f t a fl (fl%32)):=rfl
theorem gm.qk (a:Addr) (w:World):(ReflectliteValue.parts (.agg #[.pointer (some ⟨9,211,none⟩), .pointer (some a), .int .u64 150])).run Tryz.prog w= .ok (some (211,a,150)) w:=by kernel_rfl
theorem gm.wP (a p:Addr) (W:World) (ha:W.cell? a=some (.pointer (some p))):
  (ReflectliteValue.method (ReflectliteValue.valueError "reflectlite.Value.IsNil" 0) ReflectliteValue.isNil #[.agg #[.pointer (some ⟨9,211,none⟩), .pointer (some a), .int .u64 150]]).run Tryz.prog W= .ok (.bool false) W:=by
 rw[JZ]
 simp only[Sem.run_bind,gm.qk,Result.andThen]
 simp[ReflectliteValue.isNil,loadVar,isAgg,underlying,Tryz.underlying211,ha,Result.andThen]
theorem gm.pF (h:Value) (w:World):(Go.method 474 287 (.agg #[h]) "Elem").run Tryz.prog w= .ok (298, .agg #[h]) w:=by kernel_rfl
theorem gm.fe (h:Value) (w:World):(Go.method 474 287 (.agg #[h]) "Implements").run Tryz.prog w= .ok (299, .agg #[h]) w:=by kernel_rfl
theorem gm.ef (h:Value) (w:World):(Go.method 474 287 (.agg #[h]) "AssignableTo").run Tryz.prog w= .ok (296, .agg #[h]) w:=by kernel_rfl
theorem gm.Aj (w:World):(ReflectliteType.method ReflectliteType.elem #[.agg #[.pointer (some ⟨9,211,none⟩)]]).run Tryz.prog w= .ok (.iface 287 (.agg #[.pointer (some ⟨9,205,none⟩)])) w:=by kernel_rfl
theorem gm.jN (w:World):(ReflectliteType.relation "Implements" ReflectliteType.implements_ #[.agg #[.pointer (some ⟨9,205,none⟩)], .iface 287 (.agg #[.pointer (some ⟨9,209,none⟩)])]).run Tryz.prog w= .ok (.bool true) w:=by kernel_rfl
theorem gm.sP (v:Value) (w:World):(ReflectliteType.typeOf #[.iface 205 v]).run Tryz.prog w= .ok (.iface 287 (.agg #[.pointer (some ⟨9,205,none⟩)])) w:=by kernel_rfl
theorem gm.ks (w:World):(ReflectliteType.relation "AssignableTo" ReflectliteType.assignableTo #[.agg #[.pointer (some ⟨9,205,none⟩)], .iface 287 (.agg #[.pointer (some ⟨9,205,none⟩)])]).run Tryz.prog w= .ok (.bool true) w:=by kernel_rfl
theorem gm.qH (c:Int) (s:ByteArray) (w:World):(ReflectliteValue.unpack (.iface 205 (.agg #[.int .i64 c, .string s]))).run Tryz.prog w
  = .ok (.agg #[.pointer (some ⟨9,205,none⟩), .pointer (some ⟨w.heap.size,0,none⟩), .int .u64 153]) (w.alloc (.cells #[.int .i64 c, .string s] 205)):=by kernel_rfl
theorem gm.tY (w:World):(Rtype.elem? 211).run Tryz.prog w= .ok (some 205) w:=by kernel_rfl
theorem gm.IS (p:Addr) (w:World):(ReflectliteValue.mk 205 p ReflectliteValue.flagAddr).run Tryz.prog w= .ok (.agg #[.pointer (some ⟨9,205,none⟩), .pointer (some p), .int .u64 409]) w:=by kernel_rfl
theorem gm.wT (a p:Addr) (W:World) (ha:W.cell? a=some (.pointer (some p))):
  (ReflectliteValue.method (ReflectliteValue.valueError "reflectlite.Value.Elem" 0) ReflectliteValue.elem #[.agg #[.pointer (some ⟨9,211,none⟩), .pointer (some a), .int .u64 150]]).run Tryz.prog W
   = .ok (.agg #[.pointer (some ⟨9,205,none⟩), .pointer (some p), .int .u64 409]) W:=by
 rw[JZ]
 simp only[Sem.run_bind,gm.qk,Result.andThen]
 simp[ReflectliteValue.elem,loadVar,isAgg,underlying,Tryz.underlying211,ha,Result.andThen,gm.tY,gm.IS]
theorem Lk (v x:Value):ReflectliteValue.set #[v,x]=(do
  let(some (dst,a,fl),some (src,b,_)):=(←ReflectliteValue.parts v,←ReflectliteValue.parts x)
   |unsupported (.noEntry "extern/(internal/reflectlite.Value).Set.zeroValue")
  if fl/ReflectliteValue.flagAddr%2==0 then unsupported (.noEntry "extern/(internal/reflectlite.Value).Set.unaddressable")
  let val←loadVar src b
  if←Rtype.directlyAssignable dst src then storeVar dst a val
  else if←Rtype.implements dst src then
   if(←Rtype.kind src)==20 then
    match val with
    | .nilIface=>unsupported (.noEntry "extern/reflectlite: a nil value of one interface type handed on as a value of another")
    |_=>storeVar dst a val
   else storeVar dst a (.iface src val)
  else panicString ("reflectlite.Set: value of type " ++(←Rtype.spelt src)++ " is not assignable to type " ++(←Rtype.spelt dst))
  pure (.tuple #[])):=rfl
theorem gm.tq (a:Addr) (w:World):(ReflectliteValue.parts (.agg #[.pointer (some ⟨9,205,none⟩), .pointer (some a), .int .u64 409])).run Tryz.prog w= .ok (some (205,a,409)) w:=by kernel_rfl
theorem gm.wE (a:Addr) (w:World):(ReflectliteValue.parts (.agg #[.pointer (some ⟨9,205,none⟩), .pointer (some a), .int .u64 153])).run Tryz.prog w= .ok (some (205,a,153)) w:=by kernel_rfl
theorem gm.ua (w:World):(Rtype.directlyAssignable 205 205).run Tryz.prog w= .ok true w:=by kernel_rfl
theorem gm.wo (w:World):(sizeOf 205).run Tryz.prog w= .ok 2 w:=by kernel_rfl
theorem gm.size:(Tryz.prog.info? 205).map (·.size)=some 2:=by kernel_rfl
theorem gm.C2 (bt:Nat) (b:Addr) (c:Int) (s:ByteArray) (ae:Array Value) (el:TypeId) (W:World) (hb:W.cell? b=some (.int .i64 c)) (hb1:W.cell? (b.add 1)=some (.string s)) (ht:W.heap[bt]? =some (.cells ae el (0,0))) (ho:ae.size=2):
  (ReflectliteValue.set #[.agg #[.pointer (some ⟨9,205,none⟩), .pointer (some ⟨bt,0,none⟩), .int .u64 409], .agg #[.pointer (some ⟨9,205,none⟩), .pointer (some b), .int .u64 153]]).run Tryz.prog W
   = .ok (.tuple #[]) (W.setRow bt #[.int .i64 c, .string s]):=by
 have hl1:(loadCells b 2).run Tryz.prog W= .ok #[.int .i64 c, .string s] W:=by
  exact run_loadCells_list (P:=Tryz.prog) W b [.int .i64 c, .string s] (fun j v hv=>by
   match j,hv with
   |0,hv=>simp at hv;subst hv;simpa[Addr.add]using hb
   |1,hv=>simp at hv;subst hv;exact hb1
   |j+2,hv=>simp at hv)
 have hload:(loadVar 205 b).run Tryz.prog W= .ok (.agg #[.int .i64 c, .string s]) W:=by
  simp[loadVar,isAgg,underlying,Tryz.underlying205,Result.andThen,Sem.run_bind,gm.wo,hl1]
 have hstore:(storeVar 205 ⟨bt,0,none⟩ (.agg #[.int .i64 c, .string s])).run Tryz.prog W= .ok () (W.setRow bt #[.int .i64 c, .string s]):=
  run_storeVar_row (P:=Tryz.prog) W bt el 205 ae #[.int .i64 c, .string s] ht gm.size ho (by
   rw[Array.all_eq_true_iff_forall_mem];intro v hv;simp at hv;rcases hv with rfl|rfl<;>rfl)
 rw[Lk]
 simp only[Sem.run_bind,gm.tq,gm.wE,Result.andThen]
 simp[ReflectliteValue.flagAddr,Sem.run_bind,hload,hstore,Result.andThen,gm.ua]
set_option maxHeartbeats 4000000 in
theorem GA (c:Int) (s:ByteArray) (bt:Nat) (ae:Array Value) (elT:TypeId) (w:World) (hg:w.cell? ⟨2,0,none⟩=some (.iface 287 (.agg #[.pointer (some ⟨9,209,none⟩)]))) (ht0:w.heap[bt]? =some (.cells ae elT (0,0))) (ho:ae.size=2):
  Calls Tryz.prog 138 #[.iface 205 (.agg #[.int .i64 c, .string s]), .iface 211 (.pointer (some ⟨bt,0,none⟩))] w fun ev w'=>ev= .returned (.bool true)∧w'=((((w.alloc (.cells #[.pointer (some ⟨bt,0,none⟩)] 211)).alloc (.cells #[.pointer (some ⟨9,211,none⟩), .pointer (some ⟨w.heap.size,0,none⟩), .int .u64 150] 236)).alloc (.cells #[.pointer (some ⟨9,211,none⟩), .pointer (some ⟨w.heap.size,0,none⟩), .int .u64 150] 236)).alloc (.cells #[.int .i64 c, .string s] 205)).setRow bt #[.int .i64 c, .string s]:=by
 have h6:= @run_callFunc_extern Tryz.prog 172 _ (fun args=>ReflectliteValue.unpack (args.getD 0 (.tuple #[]))) Tryz.func172 (by kernel_rfl) (by kernel_rfl) (by kernel_rfl) (by kernel_rfl)
 have h7:= @run_callFunc_extern Tryz.prog 173 _ (ReflectliteValue.methodAny (ReflectliteValue.valueError "reflectlite.Value.Type" 0) (fun t _ _ _=>ReflectliteType.toType t)) Tryz.func173 (by kernel_rfl) (by kernel_rfl) (by kernel_rfl) (by kernel_rfl)
 have h8:= @run_callFunc_extern Tryz.prog 174 _ (ReflectliteValue.method (ReflectliteValue.valueError "reflectlite.Value.IsNil" 0) ReflectliteValue.isNil) Tryz.func174 (by kernel_rfl) (by kernel_rfl) (by kernel_rfl) (by kernel_rfl)
 have h27:= @run_callFunc_extern Tryz.prog 283 _ (ReflectliteType.abiMethod fun t=>do pure (.int .u8 (←Rtype.kind t))) Tryz.func283 (by kernel_rfl) (by kernel_rfl) (by kernel_rfl) (by kernel_rfl)
 have h37:= @run_callFunc_extern Tryz.prog 298 _ (ReflectliteType.method ReflectliteType.elem) Tryz.func298 (by kernel_rfl) (by kernel_rfl) (by kernel_rfl) (by kernel_rfl)
 have h38:= @run_callFunc_extern Tryz.prog 299 _ (ReflectliteType.relation "Implements" ReflectliteType.implements_) Tryz.func299 (by kernel_rfl) (by kernel_rfl) (by kernel_rfl) (by kernel_rfl)
 have h10:= @run_callFunc_extern Tryz.prog 213 _ ReflectliteType.typeOf Tryz.func213 (by kernel_rfl) (by kernel_rfl) (by kernel_rfl) (by kernel_rfl)
 have h35:= @run_callFunc_extern Tryz.prog 296 _ (ReflectliteType.relation "AssignableTo" ReflectliteType.assignableTo) Tryz.func296 (by kernel_rfl) (by kernel_rfl) (by kernel_rfl) (by kernel_rfl)
 have h11:= @run_callFunc_extern Tryz.prog 215 _ (ReflectliteValue.method (ReflectliteValue.valueError "reflectlite.Value.Elem" 0) ReflectliteValue.elem) Tryz.func215 (by kernel_rfl) (by kernel_rfl) (by kernel_rfl) (by kernel_rfl)
 have h12:= @run_callFunc_extern Tryz.prog 216 _ ReflectliteValue.set Tryz.func216 (by kernel_rfl) (by kernel_rfl) (by kernel_rfl) (by kernel_rfl)
 have tO:=gm.sP
 have mA:=gm.ef
 have a25:=gm.ks
 have v25:=gm.qH
 have f6:=gm.qG
 have f7:=gm.type27
 have mK:=gm.pE
 have mE:=gm.pF
 have mI:=gm.fe
 have k27:=gm.zP
 have k25:=gm.zQ
 have e27:=gm.Aj
 have i25:=gm.jN
 have n8:=gm.wP ⟨w.heap.size,0,none⟩ ⟨bt,0,none⟩ ((w.alloc (.cells #[.pointer (some ⟨bt,0,none⟩)] 211)).alloc (.cells #[.pointer (some ⟨9,211,none⟩), .pointer (some ⟨w.heap.size,0,none⟩), .int .u64 150] 236)) (by simp)
 have hlt:2<w.heap.size:=World.block_lt_of_cell? w _ hg
 have hg2:((w.alloc (.cells #[.pointer (some ⟨bt,0,none⟩)] 211)).alloc (.cells #[.pointer (some ⟨9,211,none⟩), .pointer (some ⟨w.heap.size,0,none⟩), .int .u64 150] 236)).cell? ⟨2,0,none⟩=some (.iface 287 (.agg #[.pointer (some ⟨9,209,none⟩)])):=by
  rw[World.cell?_alloc_lt _ _ ⟨2,0,none⟩ (Nat.lt_of_lt_of_le hlt (by simp)),World.cell?_alloc_lt _ _ ⟨2,0,none⟩ hlt];exact hg
 have htl:bt<w.heap.size:=(Array.getElem?_eq_some_iff.1 ht0).1
 have el:=gm.wT ⟨w.heap.size,0,none⟩ ⟨bt,0,none⟩ (((w.alloc (.cells #[.pointer (some ⟨bt,0,none⟩)] 211)).alloc (.cells #[.pointer (some ⟨9,211,none⟩), .pointer (some ⟨w.heap.size,0,none⟩), .int .u64 150] 236)).alloc (.cells #[.pointer (some ⟨9,211,none⟩), .pointer (some ⟨w.heap.size,0,none⟩), .int .u64 150] 236)) (by rw[World.cell?_alloc_lt _ _ ⟨w.heap.size,0,none⟩ (by simp;omega)];simp)
 have hsz: ∀ (W:World) (o:Obj),(W.alloc o).heap.size=W.heap.size+1:=fun W o=>by show(W.heap.push o).size=_;simp
 have hold: ∀ (W:World) (o:Obj),bt<W.heap.size→W.heap[bt]? =some (.cells ae elT (0,0))→(W.alloc o).heap[bt]? =some (.cells ae elT (0,0)):=fun W o hl h=>by
  rw[(MapKept.heap_alloc W o).2 _ hl];exact h
 have st:=gm.C2 bt ⟨w.heap.size+1+1+1,0,none⟩ c s ae elT ((((w.alloc (.cells #[.pointer (some ⟨bt,0,none⟩)] 211)).alloc (.cells #[.pointer (some ⟨9,211,none⟩), .pointer (some ⟨w.heap.size,0,none⟩), .int .u64 150] 236)).alloc (.cells #[.pointer (some ⟨9,211,none⟩), .pointer (some ⟨w.heap.size,0,none⟩), .int .u64 150] 236)).alloc (.cells #[.int .i64 c, .string s] 205))
  (by rw[World.cell?_alloc_at _ _ _ _ (by simp)];rfl)
  (by rw[show(⟨w.heap.size+1+1+1,0,none⟩:Addr).add 1=⟨w.heap.size+1+1+1,1,none⟩by simp[Addr.add],World.cell?_alloc_at _ _ _ _ (by simp)];rfl)
  (hold _ _ (by rw[hsz,hsz,hsz];omega) (hold _ _ (by rw[hsz,hsz];omega) (hold _ _ (by rw[hsz];omega) (hold _ _ htl ht0)))) ho
 go_enter Tryz.func138,Tryz.ntmps138
 go_wp2
 refine wp_loop_rounds 1 ?_
 rw[rounds_succ]
 go_wp2
 go_ret
 exact⟨rfl,rfl⟩
section
variable [Env]
theorem LR (c:Int) (s:ByteArray):Fk Tryz.prog GL 138 205 211 [.int .i64 c, .string s]:=by
 intro w bt ae el hG hb ho
 have hgE:=(hG 2 (.box false [.val (.iface 287 (.agg #[.pointer (some ⟨9,209,none⟩)]))]) (by unfold GL;simp)).2 (fun _=>⟨none,0,0⟩)
 refine(GA c s bt ae el w (hgE.1 0 _ rfl) hb ho).mono ?_
 rintro e w' ⟨rfl,rfl⟩
 generalize hw4:(((w.alloc (.cells #[.pointer (some ⟨bt,0,none⟩)] 211)).alloc (.cells #[.pointer (some ⟨9,211,none⟩), .pointer (some ⟨w.heap.size,0,none⟩), .int .u64 150] 236)).alloc (.cells #[.pointer (some ⟨9,211,none⟩), .pointer (some ⟨w.heap.size,0,none⟩), .int .u64 150] 236)).alloc (.cells #[.int .i64 c, .string s] 205)=w4
 have hb4:Go.RowKit.Below w.heap.size w w4:=by
  rw[←hw4]
  exact((((Go.RowKit.Below.refl _ w).alloc (Nat.le_refl _) _).alloc (by simp) _).alloc (by simp;omega) _).alloc (by simp;omega) _
 have hg4:=kept hb hb4
 refine⟨rfl,w4,hb4,rfl,rfl,rfl,by simp[World.setRow],fun k hk=> ?_, ?_⟩
 ·simp[World.setRow,Array.getElem?_modify,Ne.symm hk]
 ·simp[World.setRow,Array.getElem?_modify,hg4]
end
end Go.Proofs.YtelidogcomffkaaGreatDoor
namespace Go.Proofs.YtelidogcomffkaaGreatDoor
open Go Go.Sx
variable [dc]
def Hi (k:Int):ByteArray:=if 0≤k∧k<3 then JJ k.toNat else⟨#[]⟩
def Hh (k:Int):ByteArray:=if 0≤k∧k<5 then zn k.toNat else⟨#[]⟩
def br (m:Int):Int:=if m=1 then 12 else if m=2 then 6 else if m=3 then 4 else if m=4 then 3 else if m=6 then 2 else if m=12 then 1 else 0
theorem JM (k:Int):S 168 [I k] [] (.val (.string (Hi k))) []:=by
 refine ab.st fun X hX=> ?_
 unfold Hi at hX
 by_cases h0:k<0
 ·rw[if_neg (by omega)]at hX
  exact hX.e [t_ (dt h0),t_ (dt h0),t_ (dt h0),t_ rt]
 ·refine hX.go [f_ (df h0),f_ (df h0),f_ (df h0)] ?_
  by_cases h1:k≥3
  ·rw[if_neg (by omega)]at hX
   exact hX.e [t_ (dt h1)]
  ·have h2:(0:Int)≤k∧k<((3:Nat):Int):=by omega
   rw[if_pos (by omega)]at hX
   exact hX.e [f_ (df h1),q_ h2,q_ h2]
theorem Ij (k:Int):S 170 [I k] [] (.val (.string (Hh k))) []:=by
 refine ab.st fun X hX=> ?_
 unfold Hh at hX
 by_cases h0:k<0
 ·rw[if_neg (by omega)]at hX
  exact hX.e [t_ (dt h0),t_ (dt h0),t_ (dt h0),t_ rt]
 ·refine hX.go [f_ (df h0),f_ (df h0),f_ (df h0)] ?_
  by_cases h1:k≥5
  ·rw[if_neg (by omega)]at hX
   exact hX.e [t_ (dt h1)]
  ·have h2:(0:Int)≤k∧k<((5:Nat):Int):=by omega
   rw[if_pos (by omega)]at hX
   exact hX.e [f_ (df h1),q_ h2,q_ h2]
theorem Gk {m:Int} (h1: ¬m<1) (h2:12%m=0):br m=12/m:=by
 have hle:m≤12:=by
  refine Int.not_lt.1 fun c=> ?_
  rw[Int.emod_eq_of_lt (by decide) c]at h2
  exact absurd h2 (by decide)
 have:m=1∨m=2∨m=3∨m=4∨m=5∨m=6∨m=7∨m=8∨m=9∨m=10∨m=11∨m=12:=by omega
 rcases this with rfl|rfl|rfl|rfl|rfl|rfl|rfl|rfl|rfl|rfl|rfl|rfl<;>first|rfl|exact absurd h2 (by decide)
theorem Ag {m:Int} (h:m<1∨12%m≠0):br m=0:=by
 unfold br
 have h1:m≠1:=by rintro rfl;revert h;decide
 have h2:m≠2:=by rintro rfl;revert h;decide
 have h3:m≠3:=by rintro rfl;revert h;decide
 have h4:m≠4:=by rintro rfl;revert h;decide
 have h6:m≠6:=by rintro rfl;revert h;decide
 have h12:m≠12:=by rintro rfl;revert h;decide
 rw[if_neg h1,if_neg h2,if_neg h3,if_neg h4,if_neg h6,if_neg h12]
theorem GI (m:Int):S 77 [I m] [] (I (br m)) []:=by
 refine ab.st fun X hX=> ?_
 by_cases h0:m<1
 ·rw[Ag (.inl h0)]at hX
  exact hX.e [t_ (dt h0),t_ (dt h0),t_ (dt h0),t_ (dt h0),t_ rt]
 ·have h1:(0:Int)<m:=by omega
  refine hX.go [f_ (df h0),f_ (df h0),q_ (show(0:Int)≤12 from by decide),q_ h1,f_ (df h0),f_ (df h0)] ?_
  by_cases h2:(12%m)=0
  ·rw[Gk h0 h2]at hX
   have h4:12/m≤12:=Int.ediv_le_self _ (by decide)
   have h5:0≤12/m:=Int.ediv_nonneg (by decide) (by omega)
   have h3:Ir (12/m):=by simp only[Ir,aj];omega
   exact hX.e [f_ (bne_eq_false_iff_eq.2 h2),q_ (show(0:Int)≤12 from by decide),q_ h1,q_ h3]
  ·rw[Ag (.inr h2)]at hX
   exact hX.e [t_ (bne_iff_ne.2 h2)]
theorem Ha (m:Int):S 40 [I m] [] (I (br m)) []:=by
 refine ab.st fun X hX=> ?_
 unfold br at hX
 by_cases h0:m=1
 ·rw[if_pos h0]at hX;exact hX.e [t_ (beq_iff_eq.2 h0)]
 ·rw[if_neg h0]at hX
  refine hX.go [f_ (beq_eq_false_iff_ne.2 h0)] ?_
  by_cases h1:m=2
  ·rw[if_pos h1]at hX;exact hX.e [t_ (beq_iff_eq.2 h1)]
  ·rw[if_neg h1]at hX
   refine hX.go [f_ (beq_eq_false_iff_ne.2 h1)] ?_
   by_cases h2:m=3
   ·rw[if_pos h2]at hX;exact hX.e [t_ (beq_iff_eq.2 h2)]
   ·rw[if_neg h2]at hX
    refine hX.go [f_ (beq_eq_false_iff_ne.2 h2)] ?_
    by_cases h3:m=4
    ·rw[if_pos h3]at hX;exact hX.e [t_ (beq_iff_eq.2 h3)]
    ·rw[if_neg h3]at hX
     refine hX.go [f_ (beq_eq_false_iff_ne.2 h3)] ?_
     by_cases h4:m=6
     ·rw[if_pos h4]at hX;exact hX.e [t_ (beq_iff_eq.2 h4)]
     ·rw[if_neg h4]at hX
      refine hX.go [f_ (beq_eq_false_iff_ne.2 h4)] ?_
      by_cases h5:m=12
      ·rw[if_pos h5]at hX;exact hX.e [t_ (beq_iff_eq.2 h5)]
      ·rw[if_neg h5]at hX
       exact hX.e [f_ (beq_eq_false_iff_ne.2 h5)]
def eO:Option (Int×ByteArray)→SV
 |none=> .val .nilIface
 |some (c,a)=> .dZ 205 (.agg [I c, .val (.string a)])
def eB (b:Bool) (a:ByteArray):Option (Int×ByteArray):=match b with
 |true=>some (1,a)
 |false=>none
def emp (s:ByteArray):Bool:=s.toList==(⟨#[]⟩:ByteArray).toList
abbrev v_:ByteArray:=⟨#[107,105,110,100]⟩
abbrev rk:ByteArray:=⟨#[99,111,117,110,116]⟩
abbrev v9:ByteArray:=⟨#[114,111,108,108]⟩
abbrev ga:ByteArray:=⟨#[109,111,110,116,104,115]⟩
abbrev xh:ByteArray:=⟨#[112,101,114,105,111,100]⟩
abbrev LS:ByteArray:=⟨#[100,97,121]⟩
abbrev KE:ByteArray:=⟨#[100,97,121,115]⟩
abbrev Js:ByteArray:=⟨#[109,111,110,101,121]⟩
abbrev KD:ByteArray:=⟨#[114,97,116,101]⟩
abbrev KF:ByteArray:=⟨#[98,111,116,104]⟩
theorem tB (n a:ByteArray):S 167 [.val (.string n), .val (.string a)] [] (eO (eB (emp n) a)) []:=by
 refine ab.st fun X hX=> ?_
 rcases aq (emp n)with h0|h0
 ·rw[h0]at hX;exact hX.e [t_ (show(n.toList==(⟨#[]⟩:ByteArray).toList)=true from h0)]
 ·rw[h0]at hX;exact hX.e [f_ (show(n.toList==(⟨#[]⟩:ByteArray).toList)=false from h0)]
theorem MM (b:Bool) (a:ByteArray):S 171 [eO (eB b a), .val (bK dc.n2)] [] (B b) []:=by
 cases b
 ·exact jM _
 ·exact Cv _ _
def Ev (b1 b2 b3 b4:Bool):Option (Int×ByteArray):=match b1,b2,b3,b4 with
 |true,_,_,_=>some (1,v_)
 |false,true,_,_=>some (1,rk)
 |false,false,true,_=>some (1,v9)
 |false,false,false,true=>some (1,ga)
 |false,false,false,false=>none
def KS (i:Int) (b:Bool) (a:ByteArray) (h:(0:Int)≤i∧i<((4:Nat):Int)) (h':Ir (i+1)) (r:List It):List It:=
 [t_ rt,q_ h,q_ (re 4),q_ h,c_ [] (MM b a),b_ b rfl]++(match b with|true=>[]|false=>q_ h'::r)
def Kr {b1 b2 b3 b4:Bool} {a3 a4 ah:Int} {m3 m4 m5 p:ByteArray} (n1:S 168 [I a3] [] (.val (.string m3)) []) (n2:S 169 [I a4] [] (.val (.string m4)) []) (n3:S 170 [I ah] [] (.val (.string m5)) [])
    (k1:S 167 [.val (.string m3), .val (.string v_)] [] (eO (eB b1 v_)) []) (k2:S 167 [.val (.string m4), .val (.string rk)] [] (eO (eB b2 rk)) [])
    (k3:S 167 [.val (.string m5), .val (.string v9)] [] (eO (eB b3 v9)) []) (k4:S 167 [.val (.string p), .val (.string ga)] [] (eO (eB b4 ga)) []):List It:=
 [d_ 17,c_ [] n1,c_ [] k1,c_ [] n2,c_ [] k2,c_ [] n3,c_ [] k3,c_ [] k4,l_ [[eO (eB b1 v_)],[eO (eB b2 rk)],[eO (eB b3 v9)],[eO (eB b4 ga)]]]++
  KS 0 b1 v_ (by decide) (by decide) (KS 1 b2 rk (by decide) (by decide) (KS 2 b3 v9 (by decide) (by decide) (KS 3 b4 ga (by decide) (by decide) [f_ rf])))
theorem Eu (b4:Bool) {a1 a2 a3 a4 a5 a6 a7:Int} {a8 a9 ak:Bool} {ah:Int} (hb:b4= !decide (br a7>0)):
  S 135 [.agg [I a1,I a2,I a3,I a4,I a5,I a6,I a7,B a8,B a9,B ak,I ah]] [] (eO (Ev (emp (Hi a3)) (emp (Hg a4)) (emp (Hh ah)) b4)) []:=by
 have k1:=tB (Hi a3) v_
 have k2:=tB (Hg a4) rk
 have k3:=tB (Hh ah) v9
 have k4:S 167 [.val (.string (if br a7>0 then xh else⟨#[]⟩)), .val (.string ga)] [] (eO (eB b4 ga)) []:=by
  subst hb
  by_cases h:br a7>0
  ·rw[if_pos h,decide_eq_true h]
   have:=tB xh ga
   rw[show emp xh= !true by decide+kernel]at this
   exact this
  ·rw[if_neg h,decide_eq_false h]
   have:=tB ⟨#[]⟩ ga
   rw[show emp ⟨#[]⟩= !false by decide+kernel]at this
   exact this
 have n1:=JM a3
 have n2:=Kw a4
 have n3:=Ij ah
 generalize emp (Hi a3)=b1 at*
 generalize emp (Hg a4)=b2 at*
 generalize emp (Hh ah)=b3 at*
 clear hb
 refine ab.st fun X hX=> ?_
 refine hX.go [c_ [] (GI a7)] ?_
 by_cases h0:(br a7)>0
 ·rw[if_pos h0]at k4
  refine hX.go [t_ (dt h0)] ?_
  cases b1<;>cases b2<;>cases b3<;>cases b4<;>exact hX.e (Kr n1 n2 n3 k1 k2 k3 k4)
 ·rw[if_neg h0]at k4
  refine hX.go [f_ (df h0)] ?_
  cases b1<;>cases b2<;>cases b3<;>cases b4<;>exact hX.e (Kr n1 n2 n3 k1 k2 k3 k4)
def yI (s e:Int):Option (Int×ByteArray):=if ai s=false∨ai e=false then some (3,LS)else if s≥e then some (4,KE)else none
theorem Gs {a1 a2 a3 a4 a5 a6 a7:Int} {a8 a9 ak:Bool} {ah:Int}:
  S 136 [.agg [I a1,I a2,I a3,I a4,I a5,I a6,I a7,B a8,B a9,B ak,I ah]] [] (eO (yI a5 a6)) []:=by
 refine ab.st fun X hX=> ?_
 unfold yI at hX
 refine hX.go [l_ [[I a5],[I a6]],t_ rt,q_ (show(0:Int)≤0∧0<((2:Nat):Int)from by decide),q_ (re 2),q_ (show(0:Int)≤0∧0<((2:Nat):Int)from by decide),c_ [] (fg a5)] ?_
 rcases aq (ai a5)with d1|d1
 ·have h0:cE a5=0:=by unfold cE;rw[if_pos d1]
  refine hX.go [f_ (bne_eq_false_iff_eq.2 h0),q_ (show Ir 1 from by decide),t_ rt,q_ (show(0:Int)≤1∧1<((2:Nat):Int)from by decide),q_ (re 2),q_ (show(0:Int)≤1∧1<((2:Nat):Int)from by decide),c_ [] (fg a6)] ?_
  rcases aq (ai a6)with d2|d2
  ·have h1:cE a6=0:=by unfold cE;rw[if_pos d2]
   rw[d1,d2,if_neg (by decide)]at hX
   refine hX.go [f_ (bne_eq_false_iff_eq.2 h1),q_ (show Ir 2 from by decide),f_ rf] ?_
   by_cases h2:a5≥a6
   ·rw[if_pos h2]at hX;exact hX.e [t_ (dt h2)]
   ·rw[if_neg h2]at hX;exact hX.e [f_ (df h2)]
  ·have h1:cE a6=3:=by unfold cE;rw[if_neg (by rw[d2];decide)]
   have h2:cE a6≠0:=by rw[h1];decide
   rw[d2,if_pos (.inr rfl),←h1]at hX
   exact hX.e [t_ (bne_iff_ne.2 h2)]
 ·have h0:cE a5=3:=by unfold cE;rw[if_neg (by rw[d1];decide)]
  have h2:cE a5≠0:=by rw[h0];decide
  rw[d1,if_pos (.inl rfl),←h0]at hX
  exact hX.e [t_ (bne_iff_ne.2 h2)]
def sE (m r:Int):Option (Int×ByteArray):=if m<1∨m>1000000000000000 then some (2,Js)else if r<0∨r>1000000 then some (2,KD)else if r>9000000000000000000/m then some (2,KF)else none
theorem CG {a1 a2 a3 a4 a5 a6 a7:Int} {a8 a9 ak:Bool} {ah:Int}:
  S 137 [.agg [I a1,I a2,I a3,I a4,I a5,I a6,I a7,B a8,B a9,B ak,I ah]] [] (eO (sE a1 a2)) []:=by
 refine ab.st fun X hX=> ?_
 unfold sE at hX
 by_cases h0:a1<1
 ·rw[if_pos (.inl h0)]at hX
  exact hX.e [t_ (dt h0),t_ (dt h0),t_ (dt h0),t_ (dt h0),t_ rt]
 ·refine hX.go [f_ (df h0),f_ (df h0),f_ (df h0),f_ (df h0)] ?_
  by_cases h1:a1>1000000000000000
  ·rw[if_pos (.inr h1)]at hX
   exact hX.e [t_ (dt h1)]
  ·rw[if_neg (by omega)]at hX
   refine hX.go [f_ (df h1)] ?_
   by_cases h2:a2<0
   ·rw[if_pos (.inl h2)]at hX
    exact hX.e [t_ (dt h2),t_ (dt h2),t_ (dt h2),t_ (dt h2),t_ rt]
   ·refine hX.go [f_ (df h2),f_ (df h2),f_ (df h2),f_ (df h2)] ?_
    by_cases h3:a2>1000000
    ·rw[if_pos (.inr h3)]at hX
     exact hX.e [t_ (dt h3)]
    ·rw[if_neg (by omega)]at hX
     have h4:(0:Int)<a1:=by omega
     have h5:Ir (9000000000000000000/a1):=by
      have h6:9000000000000000000/a1≤9000000000000000000:=Int.ediv_le_self _ (by decide)
      have h7:0≤9000000000000000000/a1:=Int.ediv_nonneg (by decide) (by omega)
      simp only[Ir,aj];omega
     refine hX.go [f_ (df h3),q_ (show(0:Int)≤9000000000000000000 from by decide),q_ h4,q_ h5,d_ 5] ?_
     by_cases h6:a2>(9000000000000000000/a1)
     ·rw[if_pos h6]at hX;exact hX.e [t_ (dt h6)]
     ·rw[if_neg h6]at hX;exact hX.e [f_ (df h6)]
theorem xe:S 138 [.val .nilIface, .dZ 211 (.ptr 0 0)] [some (.box false [I 0, .val (.string (⟨#[]⟩:ByteArray))])] (B false) []:=by
 intro θ w hh hg cs
 obtain⟨e,w',fr',⟨rfl,rfl⟩,hc,h3,h4⟩:=Gz (den θ (.dZ 211 (.ptr 0 0))) w cs
 exact⟨_,_,fr',⟨Go.RowKit.Below.refl _ _,_,rfl,fun _=>⟨none,0,0⟩,fun θ' hs _=>⟨rfl,hh.sc hs ⟨rfl,trivial⟩⟩⟩,hc,h3,h4⟩
def rQ (money rate kind count start fin months roll:Int):Int:=
 if kind<0∨kind>2∨count<0∨count>6∨roll<0∨roll>4∨br months=0 then 1
 else if ai start=false∨ai fin=false then 3
 else if start≥fin then 4
 else if money<1∨money>1000000000000000∨rate<0∨rate>1000000∨money*rate>9000000000000000000 then 2 else 0
def Hc:Option (Int×ByteArray)→Int→Int
 |none,c=>c
 |some (c,_),_=>c
theorem AA {f d b:Option (Int×ByteArray)} {a1 a2 a3 a4 a5 a6 a7:Int} {a8 a9 ak:Bool} {ah:Int}
  (Kf:S 135 [.agg [I a1,I a2,I a3,I a4,I a5,I a6,I a7,B a8,B a9,B ak,I ah]] [] (eO f) []) (Kd:S 136 [.agg [I a1,I a2,I a3,I a4,I a5,I a6,I a7,B a8,B a9,B ak,I ah]] [] (eO d) [])
  (Kb:S 137 [.agg [I a1,I a2,I a3,I a4,I a5,I a6,I a7,B a8,B a9,B ak,I ah]] [] (eO b) []):
  S 107 [.agg [I a1,I a2,I a3,I a4,I a5,I a6,I a7,B a8,B a9,B ak,I ah]] [] (I (Hc f (Hc d (Hc b 0)))) []:=by
 refine ab.st fun X hX=> ?_
 refine hX.go [l_ [[.fn (.func 135) [] []],[.fn (.func 136) [] []],[.fn (.func 137) [] []]],t_ rt,q_ (show(0:Int)≤0∧0<((3:Nat):Int)from by decide),q_ (re 3),q_ (show(0:Int)≤0∧0<((3:Nat):Int)from by decide)] ?_
 match f,Kf,hX with
 |some (c,a),Kf,hX=>
  refine hX.go [c_ [] Kf] ?_
  refine hX.as (LR c a) ?_
  exact hX.e [t_ rt]
 |none,Kf,hX=>
  refine hX.go [c_ [] Kf,c_ [1] xe,f_ rf,q_ (show Ir 1 from by decide),t_ rt,q_ (show(0:Int)≤1∧1<((3:Nat):Int)from by decide),q_ (re 3),q_ (show(0:Int)≤1∧1<((3:Nat):Int)from by decide)] ?_
  match d,Kd,hX with
  |some (c,a),Kd,hX=>
   refine hX.go [c_ [] Kd] ?_
   refine hX.as (LR c a) ?_
   exact hX.e [t_ rt]
  |none,Kd,hX=>
   refine hX.go [c_ [] Kd,c_ [1] xe,f_ rf,q_ (show Ir 2 from by decide),t_ rt,q_ (show(0:Int)≤2∧2<((3:Nat):Int)from by decide),q_ (re 3),q_ (show(0:Int)≤2∧2<((3:Nat):Int)from by decide)] ?_
   match b,Kb,hX with
   |some (c,a),Kb,hX=>
    refine hX.go [c_ [] Kb] ?_
    refine hX.as (LR c a) ?_
    exact hX.e [t_ rt]
   |none,Kb,hX=>
    exact hX.e [c_ [] Kb,c_ [1] xe,f_ rf,q_ (show Ir 3 from by decide),f_ rf]
theorem LL (k:Int):emp (Hi k)= !decide (0≤k∧k<3):=by
 unfold Hi
 by_cases h:0≤k∧k<3
 ·rw[if_pos h,decide_eq_true h]
  have:k=0∨k=1∨k=2:=by omega
  rcases this with rfl|rfl|rfl<;>decide+kernel
 ·rw[if_neg h,decide_eq_false h];decide+kernel
theorem LK (k:Int):emp (Hh k)= !decide (0≤k∧k<5):=by
 unfold Hh
 by_cases h:0≤k∧k<5
 ·rw[if_pos h,decide_eq_true h]
  have:k=0∨k=1∨k=2∨k=3∨k=4:=by omega
  rcases this with rfl|rfl|rfl|rfl|rfl<;>decide+kernel
 ·rw[if_neg h,decide_eq_false h];decide+kernel
theorem LJ (k:Int):emp (Hg k)= !decide (0≤k∧k<7):=by
 by_cases h:0≤k∧k<7
 ·rw[decide_eq_true h]
  have:k=0∨k=1∨k=2∨k=3∨k=4∨k=5∨k=6:=by omega
  rcases this with rfl|rfl|rfl|rfl|rfl|rfl|rfl<;>decide+kernel
 ·rw[decide_eq_false h]
  unfold Hg
  rw[if_neg (by omega),if_neg (by omega),if_neg (by omega),if_neg (by omega),if_neg (by omega),if_neg (by omega),if_neg (by omega)];decide+kernel
theorem I9 (m:Int):0≤br m:=by unfold br;(repeat' split)<;>decide
theorem yQ {m r:Int} (h1:1≤m):r>9000000000000000000/m↔m*r>9000000000000000000:=by
 have h:=Int.ediv_lt_iff_lt_mul (a:=9000000000000000000) (b:=r) (c:=m) (by omega)
 rw[gt_iff_lt,gt_iff_lt,h,Int.mul_comm]
theorem Jk (money rate kind count start fin months roll:Int):
  Hc (Ev (emp (Hi kind)) (emp (Hg count)) (emp (Hh roll)) (!decide (br months>0))) (Hc (yI start fin) (Hc (sE money rate) 0))=rQ money rate kind count start fin months roll:=by
 have hf:=I9 months
 rw[LL,LK,LJ]
 unfold rQ
 by_cases h1:0≤kind∧kind<3
 ·by_cases h2:0≤count∧count<7
  ·by_cases h3:0≤roll∧roll<5
   ·by_cases h4:br months>0
    ·rw[decide_eq_true h1,decide_eq_true h2,decide_eq_true h3,decide_eq_true h4,if_neg (by omega)]
     show Hc (yI start fin) _=_
     unfold yI sE
     by_cases h5:ai start=false∨ai fin=false
     ·rw[if_pos h5,if_pos h5];rfl
     ·rw[if_neg h5,if_neg h5]
      by_cases h6:start≥fin
      ·rw[if_pos h6,if_pos h6];rfl
      ·rw[if_neg h6,if_neg h6]
       show Hc (if _ then _ else _) _=_
       by_cases h7:money<1∨money>1000000000000000
       ·rw[if_pos h7,if_pos (by omega)];rfl
       ·rw[if_neg h7]
        by_cases h8:rate<0∨rate>1000000
        ·rw[if_pos h8,if_pos (by omega)];rfl
        ·rw[if_neg h8]
         by_cases h9:rate>9000000000000000000/money
         ·rw[if_pos h9,if_pos (.inr (.inr (.inr (.inr ((yQ (by omega)).1 h9)))))];rfl
         ·rw[if_neg h9,if_neg (by
           have:=mt (yQ (m:=money) (r:=rate) (by omega)).2 h9
           omega)];rfl
    ·rw[decide_eq_true h1,decide_eq_true h2,decide_eq_true h3,decide_eq_false h4,if_pos (by omega)];rfl
   ·rw[decide_eq_true h1,decide_eq_true h2,decide_eq_false h3,if_pos (by omega)];cases(!decide (br months>0))<;>rfl
  ·rw[decide_eq_true h1,decide_eq_false h2,if_pos (by omega)];cases(!decide (0≤roll∧roll<5))<;>cases(!decide (br months>0))<;>rfl
 ·rw[decide_eq_false h1,if_pos (by omega)];cases(!decide (0≤count∧count<7))<;>cases(!decide (0≤roll∧roll<5))<;>cases(!decide (br months>0))<;>rfl
theorem HT (a1 a2 a3 a4 a5 a6 a7:Int) (a8 a9 ak:Bool) (ah:Int):
  S 107 [.agg [I a1,I a2,I a3,I a4,I a5,I a6,I a7,B a8,B a9,B ak,I ah]] [] (I (rQ a1 a2 a3 a4 a5 a6 a7 ah)) []:=by
 rw[←Jk]
 exact AA (Eu _ rfl) Gs CG
theorem DB (a1 a2 a3 a4 a5 a6 a7:Int) (a8 a9 ak:Bool) (ah:Int):
  S 23 [.agg [I a1,I a2,I a3,I a4,I a5,I a6,I a7,B a8,B a9,B ak,I ah]] [] (I (rQ a1 a2 a3 a4 a5 a6 a7 ah)) []:=by
 refine ab.st fun X hX=> ?_
 unfold rQ at hX
 by_cases h0:a3<0
 ·rw[if_pos (by omega)]at hX;exact hX.e [n_ 4 (t_ (dt h0)),n_ 22 (t_ rt)]
 ·refine hX.go [n_ 4 (f_ (df h0))] ?_
  by_cases h1:a3>2
  ·rw[if_pos (by omega)]at hX;exact hX.e [n_ 4 (t_ (dt h1)),n_ 18 (t_ rt)]
  ·refine hX.go [n_ 4 (f_ (df h1))] ?_
   by_cases h2:a4<0
   ·rw[if_pos (by omega)]at hX;exact hX.e [n_ 4 (t_ (dt h2)),n_ 14 (t_ rt)]
   ·refine hX.go [n_ 4 (f_ (df h2))] ?_
    by_cases h3:a4>6
    ·rw[if_pos (by omega)]at hX;exact hX.e [n_ 4 (t_ (dt h3)),n_ 10 (t_ rt)]
    ·refine hX.go [n_ 4 (f_ (df h3))] ?_
     by_cases h4:ah<0
     ·rw[if_pos (by omega)]at hX;exact hX.e [n_ 4 (t_ (dt h4)),n_ 6 (t_ rt)]
     ·refine hX.go [n_ 4 (f_ (df h4))] ?_
      by_cases h5:ah>4
      ·rw[if_pos (by omega)]at hX;exact hX.e [n_ 5 (t_ (dt h5)),t_ rt]
      ·refine hX.go [n_ 3 (f_ (df h5)),c_ [] (Ha a7),n_ 2 (f_ (df h5))] ?_
       by_cases h6:(br a7)=0
       ·rw[if_pos (by omega)]at hX;exact hX.e [t_ (beq_iff_eq.2 h6)]
       ·rw[if_neg (by omega)]at hX
        refine hX.go [f_ (beq_eq_false_iff_ne.2 h6),c_ [] (dk a5),c_ [] (dk a6)] ?_
        rcases aq (ai a5)with h7|h7
        ·refine hX.go [n_ 3 (f_ (nf h7))] ?_
         rcases aq (ai a6)with h8|h8
         ·rw[h7,h8,if_neg (by decide)]at hX
          refine hX.go [f_ (nf h8)] ?_
          by_cases h9:a5≥a6
          ·rw[if_pos h9]at hX;exact hX.e [t_ (dt h9)]
          ·rw[if_neg h9]at hX
           refine hX.go [f_ (df h9)] ?_
           by_cases h10:a1<1
           ·rw[if_pos (.inl h10)]at hX;exact hX.e [n_ 4 (t_ (dt h10)),n_ 9 (t_ rt)]
           ·refine hX.go [n_ 4 (f_ (df h10))] ?_
            by_cases h11:a1>1000000000000000
            ·rw[if_pos (.inr (.inl h11))]at hX;exact hX.e [n_ 4 (t_ (dt h11)),n_ 5 (t_ rt)]
            ·refine hX.go [n_ 4 (f_ (df h11))] ?_
             by_cases h12:a2<0
             ·rw[if_pos (.inr (.inr (.inl h12)))]at hX;exact hX.e [n_ 4 (t_ (dt h12)),t_ rt]
             ·refine hX.go [n_ 4 (f_ (df h12))] ?_
              by_cases h13:a2>1000000
              ·rw[if_pos (.inr (.inr (.inr (.inl h13))))]at hX;exact hX.e [t_ (dt h13)]
              ·obtain⟨m,rfl⟩: ∃ m:Nat,a1=(m:Int):=⟨a1.toNat,by omega⟩
               obtain⟨r,rfl⟩: ∃ r:Nat,a2=(r:Int):=⟨a2.toNat,by omega⟩
               have hm:m<9223372036854775808:=by omega
               have hr:r<9223372036854775808:=by omega
               have l1:ln m≤5:=bc.2 (by omega)
               have l2:ln r≤5:=bc.2 (by omega)
               have l3:=ia m r
               have l4:ln 9000000000000000000≤5:=bc.2 (by decide)
               have c1:=pT hm
               have c2:=pT hr
               have c3:=Prod (a:=m) (b:=r) (by omega) (by omega)
               have c4:=pT (v:=9000000000000000000) (by decide)
               have c5:=HH (a:=m*r) (b:=9000000000000000000) (by omega) (by omega)
               refine hX.go [f_ (df h13),d_ 8,c_ [] c1,c_ [] c2,c_ [1,2] c3,d_ 2,c_ [] c4,c_ [3,5] c5] ?_
               have hq:((m*r:Nat):Int)=(m:Int)*(r:Int):=by simp
               by_cases h19:cX ((m*r:Nat):Int) ((9000000000000000000:Nat):Int)>0
               ·rw[if_pos (.inr (.inr (.inr (.inr (by rw[←hq];have:=h19;unfold cX at this;split at this<;>(try split at this)<;>omega)))))]at hX
                exact hX.e [t_ (dt h19)]
               ·rw[if_neg (by
                 rw[←hq]
                 have: ¬((m*r:Nat):Int)>9000000000000000000:=by
                  have:=h19;unfold cX at this;split at this<;>(try split at this)<;>omega
                 omega)]at hX
                exact hX.e [f_ (df h19)]
         ·rw[h8,if_pos (.inr rfl)]at hX;exact hX.e [t_ (nt h8)]
        ·rw[h7,if_pos (.inl rfl)]at hX;exact hX.e [n_ 3 (t_ (nt h7)),t_ rt]
end Go.Proofs.YtelidogcomffkaaGreatDoor
namespace Go.Proofs.YtelidogcomffkaaGreatDoor
open Go Go.Sx
variable [Env]
def al (k a b:Int) (eom:Bool) (e f:Int) (n:Nat) (g:Nat→Int):Int×Int×Int:=if k=0 then kL a b eom else if k=1 then xl a b else if k=2 then dm a b e else if k=3 then r8 a b 360 else if k=4 then r8 a b 365 else if k=5 then Bh a b else if k=6 then ky a b n g f else(0,0,1)
theorem Cn {a1 a2:Int} {a3:Bool} {a4 a5:Int} {n6:Nat} {g7:Nat→Int} {res:SV} (H:RT (xl a1 a2)=res):
  S 185 [I a1,I a2, .agg [B a3,I a4,I a5, .sl 0 n6], .ptr 1 0] [ri n6 g7,some (.box false [.fn (.func 144) [] []])] res []:=by
 refine ab.st fun X hX=> ?_
 obtain rfl:=H
 exact hX.e [c_ [] (show S 144 [I a1,I a2] [] (RT (xl a1 a2)) []from KW _ _)]
theorem yi {a1 a2:Int} {a3:Bool} {a4 a5:Int} {n6:Nat} {g7:Nat→Int} {res:SV} (H:RT (r8 a1 a2 360)=res):
  S 185 [I a1,I a2, .agg [B a3,I a4,I a5, .sl 0 n6], .ptr 1 0] [ri n6 g7,some (.box false [.fn (.func 147) [] []])] res []:=by
 refine ab.st fun X hX=> ?_
 obtain rfl:=H
 exact hX.e [c_ [] (Jr a1 a2)]
theorem yh {a1 a2:Int} {a3:Bool} {a4 a5:Int} {n6:Nat} {g7:Nat→Int} {res:SV} (H:RT (r8 a1 a2 365)=res):
  S 185 [I a1,I a2, .agg [B a3,I a4,I a5, .sl 0 n6], .ptr 1 0] [ri n6 g7,some (.box false [.fn (.func 148) [] []])] res []:=by
 refine ab.st fun X hX=> ?_
 obtain rfl:=H
 exact hX.e [c_ [] (Jq a1 a2)]
theorem Cm {a1 a2:Int} {a3:Bool} {a4 a5:Int} {n6:Nat} {g7:Nat→Int} {res:SV} (H:RT (Bh a1 a2)=res):
  S 185 [I a1,I a2, .agg [B a3,I a4,I a5, .sl 0 n6], .ptr 1 0] [ri n6 g7,some (.box false [.fn (.func 149) [] []])] res []:=by
 refine ab.st fun X hX=> ?_
 obtain rfl:=H
 exact hX.e [c_ [] (Fh a1 a2)]
theorem uf {a1 a2:Int} {a3:Bool} {a4 a5:Int} {n6:Nat} {g7:Nat→Int} {res:SV} (H:RT (kL a1 a2 a3)=res):
  S 141 [I a1,I a2, .agg [B a3,I a4,I a5, .sl 0 n6]] [ri n6 g7] res []:=by
 refine ab.st fun X hX=> ?_
 obtain rfl:=H
 exact hX.e [c_ [] (show S 142 [I a1,I a2,B a3] [] (RT (kL a1 a2 a3)) []from JK _ _ _)]
theorem IK {a b:Int} {eom:Bool} {e f:Int} {n:Nat} {g:Nat→Int}:S 185 [I a,I b, .agg [B eom,I e,I f, .sl 0 n], .ptr 1 0] [ri n g,some (.box false [.fn (.func 144) [] []])] (RT (xl a b)) []:=Cn rfl
theorem DI {a b:Int} {eom:Bool} {e f:Int} {n:Nat} {g:Nat→Int}:S 185 [I a,I b, .agg [B eom,I e,I f, .sl 0 n], .ptr 1 0] [ri n g,some (.box false [.fn (.func 147) [] []])] (RT (r8 a b 360)) []:=yi rfl
theorem DH {a b:Int} {eom:Bool} {e f:Int} {n:Nat} {g:Nat→Int}:S 185 [I a,I b, .agg [B eom,I e,I f, .sl 0 n], .ptr 1 0] [ri n g,some (.box false [.fn (.func 148) [] []])] (RT (r8 a b 365)) []:=yh rfl
theorem II {a b:Int} {eom:Bool} {e f:Int} {n:Nat} {g:Nat→Int}:S 185 [I a,I b, .agg [B eom,I e,I f, .sl 0 n], .ptr 1 0] [ri n g,some (.box false [.fn (.func 149) [] []])] (RT (Bh a b)) []:=Cm rfl
theorem JC {a b:Int} {eom:Bool} {e f:Int} {n:Nat} {g:Nat→Int}:S 141 [I a,I b, .agg [B eom,I e,I f, .sl 0 n]] [ri n g] (RT (kL a b eom)) []:=uf rfl
theorem ue {a1 a2:Int} {a3:Bool} {a4 a5:Int} {n6:Nat} {g7:Nat→Int} {res:SV} (H:RT (dm a1 a2 a4)=res):
  S 145 [I a1,I a2, .agg [B a3,I a4,I a5, .sl 0 n6]] [ri n6 g7] res []:=by
 refine ab.st fun X hX=> ?_
 obtain rfl:=H
 exact hX.e [c_ [] (show S 146 [I a1,I a2,I a4] [] (RT (dm a1 a2 a4)) []from Fz _ _ _)]
theorem JB {a b:Int} {eom:Bool} {e f:Int} {n:Nat} {g:Nat→Int}:S 145 [I a,I b, .agg [B eom,I e,I f, .sl 0 n]] [ri n g] (RT (dm a b e)) []:=ue rfl
theorem ud {a1 a2:Int} {a3:Bool} {a4 a5:Int} {n6:Nat} {g7:Nat→Int} {res:SV} (H:RT (ky a1 a2 n6 g7 a5)=res):
  S 150 [I a1,I a2, .agg [B a3,I a4,I a5, .sl 0 n6]] [ri n6 g7] res []:=by
 refine ab.st fun X hX=> ?_
 obtain rfl:=H
 exact hX.e [c_ [0] (show S 151 [I a1,I a2, .sl 0 n6,I a5] [ri n6 g7] (RT (ky a1 a2 n6 g7 a5)) []from Kk)]
theorem JA {a b:Int} {eom:Bool} {e f:Int} {n:Nat} {g:Nat→Int}:S 150 [I a,I b, .agg [B eom,I e,I f, .sl 0 n]] [ri n g] (RT (ky a b n g f)) []:=ud rfl
theorem E1 {a1 a2:Int} {a3:Bool} {a4 a5:Int} {n6:Nat} {g7:Nat→Int} {res:SV} (H:RT (kL a1 a2 a3)=res):
  S 79 [I 0,I a1,I a2, .agg [B a3,I a4,I a5, .sl 0 n6]] [ri n6 g7] res []:=by
 refine ab.st fun X hX=> ?_
 obtain rfl:=H
 exact hX.e [q_ (show ∀ k,k<7→(a_ [[.val (.string (⟨#[51,48,47,51,54,48]⟩:ByteArray)), .fn (.func 141) [] []],[.val (.string (⟨#[51,48,101,47,51,54,48]⟩:ByteArray)), .fn (.func 185) [] [.ptr 3 0]],[.val (.string (⟨#[51,48,101,47,51,54,48,105,115,100,97]⟩:ByteArray)), .fn (.func 145) [] []],[.val (.string (⟨#[97,99,116,47,51,54,48]⟩:ByteArray)), .fn (.func 185) [] [.ptr 4 0]],[.val (.string (⟨#[97,99,116,47,51,54,53,102]⟩:ByteArray)), .fn (.func 185) [] [.ptr 5 0]],[.val (.string (⟨#[97,99,116,47,97,99,116]⟩:ByteArray)), .fn (.func 185) [] [.ptr 6 0]],[.val (.string (⟨#[97,99,116,47,97,99,116,105,99,109,97]⟩:ByteArray)), .fn (.func 150) [] []]]) k=[[.val (.string (⟨#[51,48,47,51,54,48]⟩:ByteArray)), .fn (.func 141) [] []],[.val (.string (⟨#[51,48,101,47,51,54,48]⟩:ByteArray)), .fn (.func 185) [] [.ptr 3 0]],[.val (.string (⟨#[51,48,101,47,51,54,48,105,115,100,97]⟩:ByteArray)), .fn (.func 145) [] []],[.val (.string (⟨#[97,99,116,47,51,54,48]⟩:ByteArray)), .fn (.func 185) [] [.ptr 4 0]],[.val (.string (⟨#[97,99,116,47,51,54,53,102]⟩:ByteArray)), .fn (.func 185) [] [.ptr 5 0]],[.val (.string (⟨#[97,99,116,47,97,99,116]⟩:ByteArray)), .fn (.func 185) [] [.ptr 6 0]],[.val (.string (⟨#[97,99,116,47,97,99,116,105,99,109,97]⟩:ByteArray)), .fn (.func 150) [] []]].getD k []from by intro k hk;match k,hk with|0,_=>rfl|1,_=>rfl|2,_=>rfl|3,_=>rfl|4,_=>rfl|5,_=>rfl|6,_=>rfl|k+7,hk=>omega),i_,i_,i_,i_,i_,h_ [.row (a_ [[.val (.string (⟨#[51,48,47,51,54,48]⟩:ByteArray)), .fn (.func 141) [] []],[.val (.string (⟨#[51,48,101,47,51,54,48]⟩:ByteArray)), .fn (.func 185) [] [.ptr 3 0]],[.val (.string (⟨#[51,48,101,47,51,54,48,105,115,100,97]⟩:ByteArray)), .fn (.func 145) [] []],[.val (.string (⟨#[97,99,116,47,51,54,48]⟩:ByteArray)), .fn (.func 185) [] [.ptr 4 0]],[.val (.string (⟨#[97,99,116,47,51,54,53,102]⟩:ByteArray)), .fn (.func 185) [] [.ptr 5 0]],[.val (.string (⟨#[97,99,116,47,97,99,116]⟩:ByteArray)), .fn (.func 185) [] [.ptr 6 0]],[.val (.string (⟨#[97,99,116,47,97,99,116,105,99,109,97]⟩:ByteArray)), .fn (.func 150) [] []]])],f_ (show decide ((0:Int)<0)=false from rfl),f_ (show decide ((0:Int)<0)=false from rfl),f_ (show decide ((0:Int)<0)=false from rfl),f_ (show decide ((0:Int)<0)=false from rfl),f_ (show decide ((0:Int)<0)=false from rfl),f_ (show decide ((0:Int)≥7)=false from rfl),q_ (show(0:Int)≤0∧0<((7:Nat):Int)from by decide),q_ (re 7),q_ (show(0:Int)≤0∧0<((7:Nat):Int)from by decide),q_ (show(0:Int)≤0∧0<((7:Nat):Int)from by decide),d_ 11,c_ [0] (show S 141 [I a1,I a2, .agg [B a3,I a4,I a5, .sl 0 n6]] [ri n6 g7] (RT (kL a1 a2 a3)) []from JC)]
theorem E0 {a1 a2:Int} {a3:Bool} {a4 a5:Int} {n6:Nat} {g7:Nat→Int} {res:SV} (H:RT (xl a1 a2)=res):
  S 79 [I 1,I a1,I a2, .agg [B a3,I a4,I a5, .sl 0 n6]] [ri n6 g7] res []:=by
 refine ab.st fun X hX=> ?_
 obtain rfl:=H
 exact hX.e [q_ (show ∀ k,k<7→(a_ [[.val (.string (⟨#[51,48,47,51,54,48]⟩:ByteArray)), .fn (.func 141) [] []],[.val (.string (⟨#[51,48,101,47,51,54,48]⟩:ByteArray)), .fn (.func 185) [] [.ptr 3 0]],[.val (.string (⟨#[51,48,101,47,51,54,48,105,115,100,97]⟩:ByteArray)), .fn (.func 145) [] []],[.val (.string (⟨#[97,99,116,47,51,54,48]⟩:ByteArray)), .fn (.func 185) [] [.ptr 4 0]],[.val (.string (⟨#[97,99,116,47,51,54,53,102]⟩:ByteArray)), .fn (.func 185) [] [.ptr 5 0]],[.val (.string (⟨#[97,99,116,47,97,99,116]⟩:ByteArray)), .fn (.func 185) [] [.ptr 6 0]],[.val (.string (⟨#[97,99,116,47,97,99,116,105,99,109,97]⟩:ByteArray)), .fn (.func 150) [] []]]) k=[[.val (.string (⟨#[51,48,47,51,54,48]⟩:ByteArray)), .fn (.func 141) [] []],[.val (.string (⟨#[51,48,101,47,51,54,48]⟩:ByteArray)), .fn (.func 185) [] [.ptr 3 0]],[.val (.string (⟨#[51,48,101,47,51,54,48,105,115,100,97]⟩:ByteArray)), .fn (.func 145) [] []],[.val (.string (⟨#[97,99,116,47,51,54,48]⟩:ByteArray)), .fn (.func 185) [] [.ptr 4 0]],[.val (.string (⟨#[97,99,116,47,51,54,53,102]⟩:ByteArray)), .fn (.func 185) [] [.ptr 5 0]],[.val (.string (⟨#[97,99,116,47,97,99,116]⟩:ByteArray)), .fn (.func 185) [] [.ptr 6 0]],[.val (.string (⟨#[97,99,116,47,97,99,116,105,99,109,97]⟩:ByteArray)), .fn (.func 150) [] []]].getD k []from by intro k hk;match k,hk with|0,_=>rfl|1,_=>rfl|2,_=>rfl|3,_=>rfl|4,_=>rfl|5,_=>rfl|6,_=>rfl|k+7,hk=>omega),i_,i_,i_,i_,i_,h_ [.row (a_ [[.val (.string (⟨#[51,48,47,51,54,48]⟩:ByteArray)), .fn (.func 141) [] []],[.val (.string (⟨#[51,48,101,47,51,54,48]⟩:ByteArray)), .fn (.func 185) [] [.ptr 3 0]],[.val (.string (⟨#[51,48,101,47,51,54,48,105,115,100,97]⟩:ByteArray)), .fn (.func 145) [] []],[.val (.string (⟨#[97,99,116,47,51,54,48]⟩:ByteArray)), .fn (.func 185) [] [.ptr 4 0]],[.val (.string (⟨#[97,99,116,47,51,54,53,102]⟩:ByteArray)), .fn (.func 185) [] [.ptr 5 0]],[.val (.string (⟨#[97,99,116,47,97,99,116]⟩:ByteArray)), .fn (.func 185) [] [.ptr 6 0]],[.val (.string (⟨#[97,99,116,47,97,99,116,105,99,109,97]⟩:ByteArray)), .fn (.func 150) [] []]])],f_ (show decide ((1:Int)<0)=false from rfl),f_ (show decide ((1:Int)<0)=false from rfl),f_ (show decide ((1:Int)<0)=false from rfl),f_ (show decide ((1:Int)<0)=false from rfl),f_ (show decide ((1:Int)<0)=false from rfl),f_ (show decide ((1:Int)≥7)=false from rfl),q_ (show(0:Int)≤1∧1<((7:Nat):Int)from by decide),q_ (re 7),q_ (show(0:Int)≤1∧1<((7:Nat):Int)from by decide),q_ (show(0:Int)≤1∧1<((7:Nat):Int)from by decide),d_ 11,c_ [0,3] (show S 185 [I a1,I a2, .agg [B a3,I a4,I a5, .sl 0 n6], .ptr 1 0] [ri n6 g7,some (.box false [.fn (.func 144) [] []])] (RT (xl a1 a2)) []from IK)]
theorem EZ {a1 a2:Int} {a3:Bool} {a4 a5:Int} {n6:Nat} {g7:Nat→Int} {res:SV} (H:RT (dm a1 a2 a4)=res):
  S 79 [I 2,I a1,I a2, .agg [B a3,I a4,I a5, .sl 0 n6]] [ri n6 g7] res []:=by
 refine ab.st fun X hX=> ?_
 obtain rfl:=H
 exact hX.e [q_ (show ∀ k,k<7→(a_ [[.val (.string (⟨#[51,48,47,51,54,48]⟩:ByteArray)), .fn (.func 141) [] []],[.val (.string (⟨#[51,48,101,47,51,54,48]⟩:ByteArray)), .fn (.func 185) [] [.ptr 3 0]],[.val (.string (⟨#[51,48,101,47,51,54,48,105,115,100,97]⟩:ByteArray)), .fn (.func 145) [] []],[.val (.string (⟨#[97,99,116,47,51,54,48]⟩:ByteArray)), .fn (.func 185) [] [.ptr 4 0]],[.val (.string (⟨#[97,99,116,47,51,54,53,102]⟩:ByteArray)), .fn (.func 185) [] [.ptr 5 0]],[.val (.string (⟨#[97,99,116,47,97,99,116]⟩:ByteArray)), .fn (.func 185) [] [.ptr 6 0]],[.val (.string (⟨#[97,99,116,47,97,99,116,105,99,109,97]⟩:ByteArray)), .fn (.func 150) [] []]]) k=[[.val (.string (⟨#[51,48,47,51,54,48]⟩:ByteArray)), .fn (.func 141) [] []],[.val (.string (⟨#[51,48,101,47,51,54,48]⟩:ByteArray)), .fn (.func 185) [] [.ptr 3 0]],[.val (.string (⟨#[51,48,101,47,51,54,48,105,115,100,97]⟩:ByteArray)), .fn (.func 145) [] []],[.val (.string (⟨#[97,99,116,47,51,54,48]⟩:ByteArray)), .fn (.func 185) [] [.ptr 4 0]],[.val (.string (⟨#[97,99,116,47,51,54,53,102]⟩:ByteArray)), .fn (.func 185) [] [.ptr 5 0]],[.val (.string (⟨#[97,99,116,47,97,99,116]⟩:ByteArray)), .fn (.func 185) [] [.ptr 6 0]],[.val (.string (⟨#[97,99,116,47,97,99,116,105,99,109,97]⟩:ByteArray)), .fn (.func 150) [] []]].getD k []from by intro k hk;match k,hk with|0,_=>rfl|1,_=>rfl|2,_=>rfl|3,_=>rfl|4,_=>rfl|5,_=>rfl|6,_=>rfl|k+7,hk=>omega),i_,i_,i_,i_,i_,h_ [.row (a_ [[.val (.string (⟨#[51,48,47,51,54,48]⟩:ByteArray)), .fn (.func 141) [] []],[.val (.string (⟨#[51,48,101,47,51,54,48]⟩:ByteArray)), .fn (.func 185) [] [.ptr 3 0]],[.val (.string (⟨#[51,48,101,47,51,54,48,105,115,100,97]⟩:ByteArray)), .fn (.func 145) [] []],[.val (.string (⟨#[97,99,116,47,51,54,48]⟩:ByteArray)), .fn (.func 185) [] [.ptr 4 0]],[.val (.string (⟨#[97,99,116,47,51,54,53,102]⟩:ByteArray)), .fn (.func 185) [] [.ptr 5 0]],[.val (.string (⟨#[97,99,116,47,97,99,116]⟩:ByteArray)), .fn (.func 185) [] [.ptr 6 0]],[.val (.string (⟨#[97,99,116,47,97,99,116,105,99,109,97]⟩:ByteArray)), .fn (.func 150) [] []]])],f_ (show decide ((2:Int)<0)=false from rfl),f_ (show decide ((2:Int)<0)=false from rfl),f_ (show decide ((2:Int)<0)=false from rfl),f_ (show decide ((2:Int)<0)=false from rfl),f_ (show decide ((2:Int)<0)=false from rfl),f_ (show decide ((2:Int)≥7)=false from rfl),q_ (show(0:Int)≤2∧2<((7:Nat):Int)from by decide),q_ (re 7),q_ (show(0:Int)≤2∧2<((7:Nat):Int)from by decide),q_ (show(0:Int)≤2∧2<((7:Nat):Int)from by decide),d_ 11,c_ [0] (show S 145 [I a1,I a2, .agg [B a3,I a4,I a5, .sl 0 n6]] [ri n6 g7] (RT (dm a1 a2 a4)) []from JB)]
theorem EY {a1 a2:Int} {a3:Bool} {a4 a5:Int} {n6:Nat} {g7:Nat→Int} {res:SV} (H:RT (r8 a1 a2 360)=res):
  S 79 [I 3,I a1,I a2, .agg [B a3,I a4,I a5, .sl 0 n6]] [ri n6 g7] res []:=by
 refine ab.st fun X hX=> ?_
 obtain rfl:=H
 exact hX.e [q_ (show ∀ k,k<7→(a_ [[.val (.string (⟨#[51,48,47,51,54,48]⟩:ByteArray)), .fn (.func 141) [] []],[.val (.string (⟨#[51,48,101,47,51,54,48]⟩:ByteArray)), .fn (.func 185) [] [.ptr 3 0]],[.val (.string (⟨#[51,48,101,47,51,54,48,105,115,100,97]⟩:ByteArray)), .fn (.func 145) [] []],[.val (.string (⟨#[97,99,116,47,51,54,48]⟩:ByteArray)), .fn (.func 185) [] [.ptr 4 0]],[.val (.string (⟨#[97,99,116,47,51,54,53,102]⟩:ByteArray)), .fn (.func 185) [] [.ptr 5 0]],[.val (.string (⟨#[97,99,116,47,97,99,116]⟩:ByteArray)), .fn (.func 185) [] [.ptr 6 0]],[.val (.string (⟨#[97,99,116,47,97,99,116,105,99,109,97]⟩:ByteArray)), .fn (.func 150) [] []]]) k=[[.val (.string (⟨#[51,48,47,51,54,48]⟩:ByteArray)), .fn (.func 141) [] []],[.val (.string (⟨#[51,48,101,47,51,54,48]⟩:ByteArray)), .fn (.func 185) [] [.ptr 3 0]],[.val (.string (⟨#[51,48,101,47,51,54,48,105,115,100,97]⟩:ByteArray)), .fn (.func 145) [] []],[.val (.string (⟨#[97,99,116,47,51,54,48]⟩:ByteArray)), .fn (.func 185) [] [.ptr 4 0]],[.val (.string (⟨#[97,99,116,47,51,54,53,102]⟩:ByteArray)), .fn (.func 185) [] [.ptr 5 0]],[.val (.string (⟨#[97,99,116,47,97,99,116]⟩:ByteArray)), .fn (.func 185) [] [.ptr 6 0]],[.val (.string (⟨#[97,99,116,47,97,99,116,105,99,109,97]⟩:ByteArray)), .fn (.func 150) [] []]].getD k []from by intro k hk;match k,hk with|0,_=>rfl|1,_=>rfl|2,_=>rfl|3,_=>rfl|4,_=>rfl|5,_=>rfl|6,_=>rfl|k+7,hk=>omega),i_,i_,i_,i_,i_,h_ [.row (a_ [[.val (.string (⟨#[51,48,47,51,54,48]⟩:ByteArray)), .fn (.func 141) [] []],[.val (.string (⟨#[51,48,101,47,51,54,48]⟩:ByteArray)), .fn (.func 185) [] [.ptr 3 0]],[.val (.string (⟨#[51,48,101,47,51,54,48,105,115,100,97]⟩:ByteArray)), .fn (.func 145) [] []],[.val (.string (⟨#[97,99,116,47,51,54,48]⟩:ByteArray)), .fn (.func 185) [] [.ptr 4 0]],[.val (.string (⟨#[97,99,116,47,51,54,53,102]⟩:ByteArray)), .fn (.func 185) [] [.ptr 5 0]],[.val (.string (⟨#[97,99,116,47,97,99,116]⟩:ByteArray)), .fn (.func 185) [] [.ptr 6 0]],[.val (.string (⟨#[97,99,116,47,97,99,116,105,99,109,97]⟩:ByteArray)), .fn (.func 150) [] []]])],f_ (show decide ((3:Int)<0)=false from rfl),f_ (show decide ((3:Int)<0)=false from rfl),f_ (show decide ((3:Int)<0)=false from rfl),f_ (show decide ((3:Int)<0)=false from rfl),f_ (show decide ((3:Int)<0)=false from rfl),f_ (show decide ((3:Int)≥7)=false from rfl),q_ (show(0:Int)≤3∧3<((7:Nat):Int)from by decide),q_ (re 7),q_ (show(0:Int)≤3∧3<((7:Nat):Int)from by decide),q_ (show(0:Int)≤3∧3<((7:Nat):Int)from by decide),d_ 11,c_ [0,4] (show S 185 [I a1,I a2, .agg [B a3,I a4,I a5, .sl 0 n6], .ptr 1 0] [ri n6 g7,some (.box false [.fn (.func 147) [] []])] (RT (r8 a1 a2 360)) []from DI)]
theorem EX {a1 a2:Int} {a3:Bool} {a4 a5:Int} {n6:Nat} {g7:Nat→Int} {res:SV} (H:RT (r8 a1 a2 365)=res):
  S 79 [I 4,I a1,I a2, .agg [B a3,I a4,I a5, .sl 0 n6]] [ri n6 g7] res []:=by
 refine ab.st fun X hX=> ?_
 obtain rfl:=H
 exact hX.e [q_ (show ∀ k,k<7→(a_ [[.val (.string (⟨#[51,48,47,51,54,48]⟩:ByteArray)), .fn (.func 141) [] []],[.val (.string (⟨#[51,48,101,47,51,54,48]⟩:ByteArray)), .fn (.func 185) [] [.ptr 3 0]],[.val (.string (⟨#[51,48,101,47,51,54,48,105,115,100,97]⟩:ByteArray)), .fn (.func 145) [] []],[.val (.string (⟨#[97,99,116,47,51,54,48]⟩:ByteArray)), .fn (.func 185) [] [.ptr 4 0]],[.val (.string (⟨#[97,99,116,47,51,54,53,102]⟩:ByteArray)), .fn (.func 185) [] [.ptr 5 0]],[.val (.string (⟨#[97,99,116,47,97,99,116]⟩:ByteArray)), .fn (.func 185) [] [.ptr 6 0]],[.val (.string (⟨#[97,99,116,47,97,99,116,105,99,109,97]⟩:ByteArray)), .fn (.func 150) [] []]]) k=[[.val (.string (⟨#[51,48,47,51,54,48]⟩:ByteArray)), .fn (.func 141) [] []],[.val (.string (⟨#[51,48,101,47,51,54,48]⟩:ByteArray)), .fn (.func 185) [] [.ptr 3 0]],[.val (.string (⟨#[51,48,101,47,51,54,48,105,115,100,97]⟩:ByteArray)), .fn (.func 145) [] []],[.val (.string (⟨#[97,99,116,47,51,54,48]⟩:ByteArray)), .fn (.func 185) [] [.ptr 4 0]],[.val (.string (⟨#[97,99,116,47,51,54,53,102]⟩:ByteArray)), .fn (.func 185) [] [.ptr 5 0]],[.val (.string (⟨#[97,99,116,47,97,99,116]⟩:ByteArray)), .fn (.func 185) [] [.ptr 6 0]],[.val (.string (⟨#[97,99,116,47,97,99,116,105,99,109,97]⟩:ByteArray)), .fn (.func 150) [] []]].getD k []from by intro k hk;match k,hk with|0,_=>rfl|1,_=>rfl|2,_=>rfl|3,_=>rfl|4,_=>rfl|5,_=>rfl|6,_=>rfl|k+7,hk=>omega),i_,i_,i_,i_,i_,h_ [.row (a_ [[.val (.string (⟨#[51,48,47,51,54,48]⟩:ByteArray)), .fn (.func 141) [] []],[.val (.string (⟨#[51,48,101,47,51,54,48]⟩:ByteArray)), .fn (.func 185) [] [.ptr 3 0]],[.val (.string (⟨#[51,48,101,47,51,54,48,105,115,100,97]⟩:ByteArray)), .fn (.func 145) [] []],[.val (.string (⟨#[97,99,116,47,51,54,48]⟩:ByteArray)), .fn (.func 185) [] [.ptr 4 0]],[.val (.string (⟨#[97,99,116,47,51,54,53,102]⟩:ByteArray)), .fn (.func 185) [] [.ptr 5 0]],[.val (.string (⟨#[97,99,116,47,97,99,116]⟩:ByteArray)), .fn (.func 185) [] [.ptr 6 0]],[.val (.string (⟨#[97,99,116,47,97,99,116,105,99,109,97]⟩:ByteArray)), .fn (.func 150) [] []]])],f_ (show decide ((4:Int)<0)=false from rfl),f_ (show decide ((4:Int)<0)=false from rfl),f_ (show decide ((4:Int)<0)=false from rfl),f_ (show decide ((4:Int)<0)=false from rfl),f_ (show decide ((4:Int)<0)=false from rfl),f_ (show decide ((4:Int)≥7)=false from rfl),q_ (show(0:Int)≤4∧4<((7:Nat):Int)from by decide),q_ (re 7),q_ (show(0:Int)≤4∧4<((7:Nat):Int)from by decide),q_ (show(0:Int)≤4∧4<((7:Nat):Int)from by decide),d_ 11,c_ [0,5] (show S 185 [I a1,I a2, .agg [B a3,I a4,I a5, .sl 0 n6], .ptr 1 0] [ri n6 g7,some (.box false [.fn (.func 148) [] []])] (RT (r8 a1 a2 365)) []from DH)]
theorem EW {a1 a2:Int} {a3:Bool} {a4 a5:Int} {n6:Nat} {g7:Nat→Int} {res:SV} (H:RT (Bh a1 a2)=res):
  S 79 [I 5,I a1,I a2, .agg [B a3,I a4,I a5, .sl 0 n6]] [ri n6 g7] res []:=by
 refine ab.st fun X hX=> ?_
 obtain rfl:=H
 exact hX.e [q_ (show ∀ k,k<7→(a_ [[.val (.string (⟨#[51,48,47,51,54,48]⟩:ByteArray)), .fn (.func 141) [] []],[.val (.string (⟨#[51,48,101,47,51,54,48]⟩:ByteArray)), .fn (.func 185) [] [.ptr 3 0]],[.val (.string (⟨#[51,48,101,47,51,54,48,105,115,100,97]⟩:ByteArray)), .fn (.func 145) [] []],[.val (.string (⟨#[97,99,116,47,51,54,48]⟩:ByteArray)), .fn (.func 185) [] [.ptr 4 0]],[.val (.string (⟨#[97,99,116,47,51,54,53,102]⟩:ByteArray)), .fn (.func 185) [] [.ptr 5 0]],[.val (.string (⟨#[97,99,116,47,97,99,116]⟩:ByteArray)), .fn (.func 185) [] [.ptr 6 0]],[.val (.string (⟨#[97,99,116,47,97,99,116,105,99,109,97]⟩:ByteArray)), .fn (.func 150) [] []]]) k=[[.val (.string (⟨#[51,48,47,51,54,48]⟩:ByteArray)), .fn (.func 141) [] []],[.val (.string (⟨#[51,48,101,47,51,54,48]⟩:ByteArray)), .fn (.func 185) [] [.ptr 3 0]],[.val (.string (⟨#[51,48,101,47,51,54,48,105,115,100,97]⟩:ByteArray)), .fn (.func 145) [] []],[.val (.string (⟨#[97,99,116,47,51,54,48]⟩:ByteArray)), .fn (.func 185) [] [.ptr 4 0]],[.val (.string (⟨#[97,99,116,47,51,54,53,102]⟩:ByteArray)), .fn (.func 185) [] [.ptr 5 0]],[.val (.string (⟨#[97,99,116,47,97,99,116]⟩:ByteArray)), .fn (.func 185) [] [.ptr 6 0]],[.val (.string (⟨#[97,99,116,47,97,99,116,105,99,109,97]⟩:ByteArray)), .fn (.func 150) [] []]].getD k []from by intro k hk;match k,hk with|0,_=>rfl|1,_=>rfl|2,_=>rfl|3,_=>rfl|4,_=>rfl|5,_=>rfl|6,_=>rfl|k+7,hk=>omega),i_,i_,i_,i_,i_,h_ [.row (a_ [[.val (.string (⟨#[51,48,47,51,54,48]⟩:ByteArray)), .fn (.func 141) [] []],[.val (.string (⟨#[51,48,101,47,51,54,48]⟩:ByteArray)), .fn (.func 185) [] [.ptr 3 0]],[.val (.string (⟨#[51,48,101,47,51,54,48,105,115,100,97]⟩:ByteArray)), .fn (.func 145) [] []],[.val (.string (⟨#[97,99,116,47,51,54,48]⟩:ByteArray)), .fn (.func 185) [] [.ptr 4 0]],[.val (.string (⟨#[97,99,116,47,51,54,53,102]⟩:ByteArray)), .fn (.func 185) [] [.ptr 5 0]],[.val (.string (⟨#[97,99,116,47,97,99,116]⟩:ByteArray)), .fn (.func 185) [] [.ptr 6 0]],[.val (.string (⟨#[97,99,116,47,97,99,116,105,99,109,97]⟩:ByteArray)), .fn (.func 150) [] []]])],f_ (show decide ((5:Int)<0)=false from rfl),f_ (show decide ((5:Int)<0)=false from rfl),f_ (show decide ((5:Int)<0)=false from rfl),f_ (show decide ((5:Int)<0)=false from rfl),f_ (show decide ((5:Int)<0)=false from rfl),f_ (show decide ((5:Int)≥7)=false from rfl),q_ (show(0:Int)≤5∧5<((7:Nat):Int)from by decide),q_ (re 7),q_ (show(0:Int)≤5∧5<((7:Nat):Int)from by decide),q_ (show(0:Int)≤5∧5<((7:Nat):Int)from by decide),d_ 11,c_ [0,6] (show S 185 [I a1,I a2, .agg [B a3,I a4,I a5, .sl 0 n6], .ptr 1 0] [ri n6 g7,some (.box false [.fn (.func 149) [] []])] (RT (Bh a1 a2)) []from II)]
theorem EV {a1 a2:Int} {a3:Bool} {a4 a5:Int} {n6:Nat} {g7:Nat→Int} {res:SV} (H:RT (ky a1 a2 n6 g7 a5)=res):
  S 79 [I 6,I a1,I a2, .agg [B a3,I a4,I a5, .sl 0 n6]] [ri n6 g7] res []:=by
 refine ab.st fun X hX=> ?_
 obtain rfl:=H
 exact hX.e [q_ (show ∀ k,k<7→(a_ [[.val (.string (⟨#[51,48,47,51,54,48]⟩:ByteArray)), .fn (.func 141) [] []],[.val (.string (⟨#[51,48,101,47,51,54,48]⟩:ByteArray)), .fn (.func 185) [] [.ptr 3 0]],[.val (.string (⟨#[51,48,101,47,51,54,48,105,115,100,97]⟩:ByteArray)), .fn (.func 145) [] []],[.val (.string (⟨#[97,99,116,47,51,54,48]⟩:ByteArray)), .fn (.func 185) [] [.ptr 4 0]],[.val (.string (⟨#[97,99,116,47,51,54,53,102]⟩:ByteArray)), .fn (.func 185) [] [.ptr 5 0]],[.val (.string (⟨#[97,99,116,47,97,99,116]⟩:ByteArray)), .fn (.func 185) [] [.ptr 6 0]],[.val (.string (⟨#[97,99,116,47,97,99,116,105,99,109,97]⟩:ByteArray)), .fn (.func 150) [] []]]) k=[[.val (.string (⟨#[51,48,47,51,54,48]⟩:ByteArray)), .fn (.func 141) [] []],[.val (.string (⟨#[51,48,101,47,51,54,48]⟩:ByteArray)), .fn (.func 185) [] [.ptr 3 0]],[.val (.string (⟨#[51,48,101,47,51,54,48,105,115,100,97]⟩:ByteArray)), .fn (.func 145) [] []],[.val (.string (⟨#[97,99,116,47,51,54,48]⟩:ByteArray)), .fn (.func 185) [] [.ptr 4 0]],[.val (.string (⟨#[97,99,116,47,51,54,53,102]⟩:ByteArray)), .fn (.func 185) [] [.ptr 5 0]],[.val (.string (⟨#[97,99,116,47,97,99,116]⟩:ByteArray)), .fn (.func 185) [] [.ptr 6 0]],[.val (.string (⟨#[97,99,116,47,97,99,116,105,99,109,97]⟩:ByteArray)), .fn (.func 150) [] []]].getD k []from by intro k hk;match k,hk with|0,_=>rfl|1,_=>rfl|2,_=>rfl|3,_=>rfl|4,_=>rfl|5,_=>rfl|6,_=>rfl|k+7,hk=>omega),i_,i_,i_,i_,i_,h_ [.row (a_ [[.val (.string (⟨#[51,48,47,51,54,48]⟩:ByteArray)), .fn (.func 141) [] []],[.val (.string (⟨#[51,48,101,47,51,54,48]⟩:ByteArray)), .fn (.func 185) [] [.ptr 3 0]],[.val (.string (⟨#[51,48,101,47,51,54,48,105,115,100,97]⟩:ByteArray)), .fn (.func 145) [] []],[.val (.string (⟨#[97,99,116,47,51,54,48]⟩:ByteArray)), .fn (.func 185) [] [.ptr 4 0]],[.val (.string (⟨#[97,99,116,47,51,54,53,102]⟩:ByteArray)), .fn (.func 185) [] [.ptr 5 0]],[.val (.string (⟨#[97,99,116,47,97,99,116]⟩:ByteArray)), .fn (.func 185) [] [.ptr 6 0]],[.val (.string (⟨#[97,99,116,47,97,99,116,105,99,109,97]⟩:ByteArray)), .fn (.func 150) [] []]])],f_ (show decide ((6:Int)<0)=false from rfl),f_ (show decide ((6:Int)<0)=false from rfl),f_ (show decide ((6:Int)<0)=false from rfl),f_ (show decide ((6:Int)<0)=false from rfl),f_ (show decide ((6:Int)<0)=false from rfl),f_ (show decide ((6:Int)≥7)=false from rfl),q_ (show(0:Int)≤6∧6<((7:Nat):Int)from by decide),q_ (re 7),q_ (show(0:Int)≤6∧6<((7:Nat):Int)from by decide),q_ (show(0:Int)≤6∧6<((7:Nat):Int)from by decide),d_ 11,c_ [0] (show S 150 [I a1,I a2, .agg [B a3,I a4,I a5, .sl 0 n6]] [ri n6 g7] (RT (ky a1 a2 n6 g7 a5)) []from JA)]
theorem EU {a1 a2 a3:Int} {a4:Bool} {a5 a6:Int} {n7:Nat} {g8:Nat→Int} {res:SV} (H:(a1<0→(SV.af [.agg [I 0,I 0],I 1])=res)∧(¬a1<0→(a1≥7→(SV.af [.agg [I 0,I 0],I 1])=res)∧(¬a1≥7→((0:Int)≤a1∧a1<((7:Nat):Int))∧False))):
  S 79 [I a1,I a2,I a3, .agg [B a4,I a5,I a6, .sl 0 n7]] [ri n7 g8] res []:=by
 refine ab.st fun X hX=> ?_
 obtain⟨H1,H2⟩:=H
 refine hX.go [q_ (show ∀ k,k<7→(a_ [[.val (.string (⟨#[51,48,47,51,54,48]⟩:ByteArray)), .fn (.func 141) [] []],[.val (.string (⟨#[51,48,101,47,51,54,48]⟩:ByteArray)), .fn (.func 185) [] [.ptr 3 0]],[.val (.string (⟨#[51,48,101,47,51,54,48,105,115,100,97]⟩:ByteArray)), .fn (.func 145) [] []],[.val (.string (⟨#[97,99,116,47,51,54,48]⟩:ByteArray)), .fn (.func 185) [] [.ptr 4 0]],[.val (.string (⟨#[97,99,116,47,51,54,53,102]⟩:ByteArray)), .fn (.func 185) [] [.ptr 5 0]],[.val (.string (⟨#[97,99,116,47,97,99,116]⟩:ByteArray)), .fn (.func 185) [] [.ptr 6 0]],[.val (.string (⟨#[97,99,116,47,97,99,116,105,99,109,97]⟩:ByteArray)), .fn (.func 150) [] []]]) k=[[.val (.string (⟨#[51,48,47,51,54,48]⟩:ByteArray)), .fn (.func 141) [] []],[.val (.string (⟨#[51,48,101,47,51,54,48]⟩:ByteArray)), .fn (.func 185) [] [.ptr 3 0]],[.val (.string (⟨#[51,48,101,47,51,54,48,105,115,100,97]⟩:ByteArray)), .fn (.func 145) [] []],[.val (.string (⟨#[97,99,116,47,51,54,48]⟩:ByteArray)), .fn (.func 185) [] [.ptr 4 0]],[.val (.string (⟨#[97,99,116,47,51,54,53,102]⟩:ByteArray)), .fn (.func 185) [] [.ptr 5 0]],[.val (.string (⟨#[97,99,116,47,97,99,116]⟩:ByteArray)), .fn (.func 185) [] [.ptr 6 0]],[.val (.string (⟨#[97,99,116,47,97,99,116,105,99,109,97]⟩:ByteArray)), .fn (.func 150) [] []]].getD k []from by intro k hk;match k,hk with|0,_=>rfl|1,_=>rfl|2,_=>rfl|3,_=>rfl|4,_=>rfl|5,_=>rfl|6,_=>rfl|k+7,hk=>omega),i_,i_,i_,i_,i_,h_ [.row (a_ [[.val (.string (⟨#[51,48,47,51,54,48]⟩:ByteArray)), .fn (.func 141) [] []],[.val (.string (⟨#[51,48,101,47,51,54,48]⟩:ByteArray)), .fn (.func 185) [] [.ptr 3 0]],[.val (.string (⟨#[51,48,101,47,51,54,48,105,115,100,97]⟩:ByteArray)), .fn (.func 145) [] []],[.val (.string (⟨#[97,99,116,47,51,54,48]⟩:ByteArray)), .fn (.func 185) [] [.ptr 4 0]],[.val (.string (⟨#[97,99,116,47,51,54,53,102]⟩:ByteArray)), .fn (.func 185) [] [.ptr 5 0]],[.val (.string (⟨#[97,99,116,47,97,99,116]⟩:ByteArray)), .fn (.func 185) [] [.ptr 6 0]],[.val (.string (⟨#[97,99,116,47,97,99,116,105,99,109,97]⟩:ByteArray)), .fn (.func 150) [] []]])]] ?_
 by_cases h0:a1<0
 ·obtain rfl:=H1 h0
  exact hX.e [t_ (dt h0),t_ (dt h0),t_ (dt h0),t_ (dt h0),t_ (dt h0),t_ rt]
 ·obtain⟨H1,H2⟩:=H2 h0
  refine hX.go [f_ (df h0),f_ (df h0),f_ (df h0),f_ (df h0),f_ (df h0)] ?_
  by_cases h1:a1≥7
  ·obtain rfl:=H1 h1
   exact hX.e [t_ (dt h1)]
  simp_all
theorem kP {a1 a2 a3:Int} {a4:Bool} {a5 a6:Int} {n7:Nat} {g8:Nat→Int} {res:SV} (H:(a1=0→RT (kL a2 a3 a4)=res)∧(a1≠0→(a1=1→RT (xl a2 a3)=res)∧(a1≠1→(a1=2→RT (dm a2 a3 a5)=res)∧(a1≠2→(a1=3→RT (r8 a2 a3 360)=res)∧(a1≠3→(a1=4→RT (r8 a2 a3 365)=res)∧(a1≠4→(a1=5→RT (Bh a2 a3)=res)∧(a1≠5→(a1=6→RT (ky a2 a3 n7 g8 a6)=res)∧(a1≠6→(SV.af [.agg [I 0,I 0],I 1])=res)))))))):
  S 57 [I a1,I a2,I a3, .agg [B a4,I a5,I a6, .sl 0 n7]] [ri n7 g8] res []:=by
 refine ab.st fun X hX=> ?_
 obtain⟨H1,H2⟩:=H
 by_cases h0:a1=0
 ·obtain rfl:=H1 h0
  exact hX.e [t_ (beq_iff_eq.2 h0),c_ [] (show S 81 [I a2,I a3,B a4] [] (RT (kL a2 a3 a4)) []from Dp _ _ _)]
 ·obtain⟨H1,H2⟩:=H2 h0
  refine hX.go [f_ (beq_eq_false_iff_ne.2 h0)] ?_
  by_cases h1:a1=1
  ·obtain rfl:=H1 h1
   exact hX.e [t_ (beq_iff_eq.2 h1),c_ [] (show S 82 [I a2,I a3] [] (RT (xl a2 a3)) []from G0 _ _)]
  ·obtain⟨H1,H2⟩:=H2 h1
   refine hX.go [f_ (beq_eq_false_iff_ne.2 h1)] ?_
   by_cases h2:a1=2
   ·obtain rfl:=H1 h2
    exact hX.e [t_ (beq_iff_eq.2 h2),c_ [] (show S 83 [I a2,I a3,I a5] [] (RT (dm a2 a3 a5)) []from xP _ _ _)]
   ·obtain⟨H1,H2⟩:=H2 h2
    refine hX.go [f_ (beq_eq_false_iff_ne.2 h2)] ?_
    by_cases h3:a1=3
    ·obtain rfl:=H1 h3
     exact hX.e [t_ (beq_iff_eq.2 h3),c_ [] (vI a2 a3)]
    ·obtain⟨H1,H2⟩:=H2 h3
     refine hX.go [f_ (beq_eq_false_iff_ne.2 h3)] ?_
     by_cases h4:a1=4
     ·obtain rfl:=H1 h4
      exact hX.e [t_ (beq_iff_eq.2 h4),c_ [] (vH a2 a3)]
     ·obtain⟨H1,H2⟩:=H2 h4
      refine hX.go [f_ (beq_eq_false_iff_ne.2 h4)] ?_
      by_cases h5:a1=5
      ·obtain rfl:=H1 h5
       exact hX.e [t_ (beq_iff_eq.2 h5),c_ [] (rB a2 a3)]
      ·obtain⟨H1,H2⟩:=H2 h5
       refine hX.go [f_ (beq_eq_false_iff_ne.2 h5)] ?_
       by_cases h6:a1=6
       ·obtain rfl:=H1 h6
        exact hX.e [t_ (beq_iff_eq.2 h6),c_ [0] (show S 87 [I a2,I a3, .sl 0 n7,I a6] [ri n7 g8] (RT (ky a2 a3 n7 g8 a6)) []from JY)]
       ·obtain rfl:=H2 h6
        exact hX.e [f_ (beq_eq_false_iff_ne.2 h6)]
theorem Hz (k a b:Int) {eom:Bool} {e f:Int} {n:Nat} {g:Nat→Int}:S 79 [I k,I a,I b, .agg [B eom,I e,I f, .sl 0 n]] [ri n g] (RT (al k a b eom e f n g)) []:=by
 by_cases h:k<0∨k≥7
 ·have e1:al k a b eom e f n g=(0,0,1):=by
   grind [al]
  rw[e1]
  exact EU ⟨fun _=>rfl,fun h1=>⟨fun _=>rfl,fun h2=>by omega⟩⟩
 ·have:k=0∨k=1∨k=2∨k=3∨k=4∨k=5∨k=6:=by omega
  rcases this with rfl|rfl|rfl|rfl|rfl|rfl|rfl
  ·exact E1 rfl
  ·exact E0 rfl
  ·exact EZ rfl
  ·exact EY rfl
  ·exact EX rfl
  ·exact EW rfl
  ·exact EV rfl
theorem G5 (k a b:Int) {eom:Bool} {e f:Int} {n:Nat} {g:Nat→Int}:S 57 [I k,I a,I b, .agg [B eom,I e,I f, .sl 0 n]] [ri n g] (RT (al k a b eom e f n g)) []:=
 kP ⟨fun h0=>by subst h0;rfl,fun h0=>⟨fun h1=>by subst h1;rfl,fun h1=>⟨fun h2=>by subst h2;rfl,fun h2=>⟨fun h3=>by subst h3;rfl,fun h3=>⟨fun h4=>by subst h4;rfl,fun h4=>⟨fun h5=>by subst h5;rfl,fun h5=>⟨fun h6=>by subst h6;rfl,fun h6=>by simp only[al,h0,h1,h2,h3,h4,h5,h6,if_true,if_false,Bool.false_eq_true]⟩⟩⟩⟩⟩⟩⟩
end Go.Proofs.YtelidogcomffkaaGreatDoor
namespace Go.Sx
open Go.RowKit
theorem av.Bp {X:Cx} {P:Program} {gl:List (Nat×Vw)} {f:FuncId} {hp0:List (Option Vw)} {el:TypeId} {sz:Nat} {g:Nat→List SV} {e:SV}
  (hX:av X P gl f hp0 (.af [.sl hp0.length 0,e]) [some (.row true el 0 sz g)]):av X P gl f hp0 (.af [.val (.slice none 0 0),e]) []:=by
 obtain⟨h1,h2,h3,hce,h4,h5,h6,h7,h8⟩:=hX
 refine⟨h1,h2,h3,hce,h4,h5,h6,h7,fun r w' hb hr=>h8 r w' hb ?_⟩
 obtain⟨nw,hn⟩:=hr
 refine⟨fun _=>⟨none,0,sz⟩,fun θ' hs hk=> ?_⟩
 obtain⟨e1,e2⟩:=hn θ' hs (fun k hk=>absurd hk (Nat.not_lt_zero _))
 have eL:θ' hp0.length=⟨none,0,sz⟩:=hk 0 Nat.one_pos
 rw[List.append_nil]at e2
 refine⟨?_,⟨fun t v hv=> ?_,fun t t' v v' hv hv' hne ho hl a a' ha ha'=> ?_⟩⟩
 ·rw[e1]
  simp only[den,ax,eL]
 ·rcases Nat.lt_or_ge t hp0.length with c|c
  ·rw[List.getElem?_append_left c]at hv
   exact e2.vw t v hv
  ·rw[List.getElem?_append_right c]at hv
   have:t=hp0.length:=by
    rcases Nat.eq_or_lt_of_le c with q|q
    ·exact q.symm
    ·rw[List.getElem?_eq_none (by simp only[List.length_cons,List.length_nil];omega)]at hv;cases hv
   subst this
   rw[Nat.sub_self]at hv
   simp only[List.getElem?_cons_zero,Option.some.injEq]at hv
   subst hv
   rw[eL]
   exact⟨rfl,Nat.le_refl _,⟨.inl rfl,(fun a ha=>by cases ha)⟩,fun i hi=>absurd hi (Nat.not_lt_zero _),(fun a ha=>by cases ha),fun _=> .inl ⟨rfl,rfl⟩⟩
 ·have out: ∀ (s:Nat) (u:Vw) (b:_),(hp0++[some (Vw.row true el 0 sz g)])[s]? =some (some u)→(θ' s).base=some b→hp0[s]? =some (some u):=fun s u b hs hb=>by
   rcases Nat.lt_or_ge s hp0.length with c|c
   ·rwa [List.getElem?_append_left c]at hs
   ·exfalso
    have:s=hp0.length:=by
     rcases Nat.eq_or_lt_of_le c with q|q
     ·exact q.symm
     ·rw[List.getElem?_append_right c,List.getElem?_eq_none (by simp only[List.length_cons,List.length_nil];omega)]at hs;cases hs
    subst this
    rw[eL]at hb;cases hb
  exact e2.ne t t' v v' (out t v a hv ha) (out t' v' a' hv' ha') hne ho hl a a' ha ha'
theorem av.zH {X:Cx} {P:Program} {gl:List (Nat×Vw)} {f:FuncId} {hp0 new:List (Option Vw)} {el:TypeId} {sz:Nat} {g:Nat→List SV} {res res':SV}
  (hX:av X P gl f hp0 res (new++[some (.row true el 0 sz g)])) (hres: ∀ θ':Th,θ' (hp0.length+new.length)=⟨none,0,sz⟩→den θ' res'=den θ' res):av X P gl f hp0 res' new:=by
 obtain⟨h1,h2,h3,hce,h4,h5,h6,h7,h8⟩:=hX
 refine⟨h1,h2,h3,hce,h4,h5,h6,h7,fun r w' hb hr=>h8 r w' hb ?_⟩
 obtain⟨nw,hn⟩:=hr
 refine⟨fun k=>if k<new.length then nw k else⟨none,0,sz⟩,fun θ' hs hk=> ?_⟩
 obtain⟨e1,e2⟩:=hn θ' hs (fun k hk'=>(hk k (by rw[List.length_append];show k<new.length+1;omega)).trans (if_pos hk'))
 have eL:θ' (hp0.length+new.length)=⟨none,0,sz⟩:=(hk new.length (by rw[List.length_append];show new.length<new.length+1;omega)).trans (if_neg (Nat.lt_irrefl _))
 rw[←List.append_assoc]
 have hL:(hp0++new).length=hp0.length+new.length:=List.length_append
 refine⟨?_,⟨fun t v hv=> ?_,fun t t' v v' hv hv' hne ho hl a a' ha ha'=> ?_⟩⟩
 ·rw[e1,hres θ' eL]
 ·rcases Nat.lt_or_ge t (hp0++new).length with c|c
  ·rw[List.getElem?_append_left c]at hv
   exact e2.vw t v hv
  ·rw[List.getElem?_append_right c]at hv
   have:t=(hp0++new).length:=by
    rcases Nat.eq_or_lt_of_le c with q|q
    ·exact q.symm
    ·rw[List.getElem?_eq_none (by simp only[List.length_cons,List.length_nil];omega)]at hv;cases hv
   subst this
   rw[Nat.sub_self]at hv
   simp only[List.getElem?_cons_zero,Option.some.injEq]at hv
   subst hv
   rw[hL,eL]
   exact⟨rfl,Nat.le_refl _,⟨.inl rfl,(fun a ha=>by cases ha)⟩,fun i hi=>absurd hi (Nat.not_lt_zero _),(fun a ha=>by cases ha),fun _=> .inl ⟨rfl,rfl⟩⟩
 ·have out: ∀ (s:Nat) (u:Vw) (b:_),((hp0++new)++[some (Vw.row true el 0 sz g)])[s]? =some (some u)→(θ' s).base=some b→(hp0++new)[s]? =some (some u):=fun s u b hs hb=>by
   rcases Nat.lt_or_ge s (hp0++new).length with c|c
   ·rwa [List.getElem?_append_left c]at hs
   ·exfalso
    have:s=(hp0++new).length:=by
     rcases Nat.eq_or_lt_of_le c with q|q
     ·exact q.symm
     ·rw[List.getElem?_append_right c,List.getElem?_eq_none (by simp only[List.length_cons,List.length_nil];omega)]at hs;cases hs
    subst this
    rw[hL,eL]at hb;cases hb
  exact e2.ne t t' v v' (out t v a hv ha) (out t' v' a' hv' ha') hne ho hl a a' ha ha'
end Go.Sx
namespace Go.Proofs.YtelidogcomffkaaGreatDoor
open Go Go.Sx
variable [Env]
def rH (o r n d:Int):Int×Int:=if dC n d=true then y4 o r n d 10000 else(0,1)
def HC (p:Int×Int×Int) (o r:Int):Int×Int:=if p.2.2=0 then rH o r p.1 p.2.1 else(0,p.2.2)
theorem yT {a1 a2 a3 a4:Int} {res:SV} (H:((dC a3 a4)=false→(SV.af [I 0,I 1])=res)∧((dC a3 a4)=true→ ∃ r5 r6:Int,S 157 [I a1,I a2, .agg [I a3,I a4],I 10000] [] (.af [I r5,I r6]) []∧(SV.af [I r5,I r6])=res)):
  S 122 [I a1,I a2, .agg [I a3,I a4]] [] res []:=by
 refine ab.st fun X hX=> ?_
 obtain⟨H1,H2⟩:=H
 refine hX.go [c_ [] (show S 156 [.agg [I a3,I a4]] [] (B (dC a3 a4)) []from Jl _ _)] ?_
 rcases aq (dC a3 a4)with h0|h0
 ·obtain⟨r5,r6,h1,rfl⟩:=H2 h0
  exact hX.e [f_ (nf h0),c_ [] h1]
 ·obtain rfl:=H1 h0
  exact hX.e [t_ (nt h0)]
theorem Mr {o r:Int} (n d:Int) (h1:Ir o) (h2:Ir r):S 122 [I o,I r, .agg [I n,I d]] [] (IT (rH o r n d)) []:=by
 simp only[Ir,aj]at h1 h2
 refine yT ⟨fun c=> ?_,fun c=> ?_⟩
 ·unfold rH;rw[c];rfl
 ·have h:=of_decide_eq_true c
  have:=IA (n:=n) (d:=d) o r 10000 (by omega) (by omega) (by omega) (by omega) (by omega) (by omega) (by omega)
  rw[show rH o r n d=y4 o r n d 10000 by unfold rH;rw[if_pos c]]
  exact⟨_,_,this,rfl⟩
theorem oG {a1 a2 a3 a4:Int} {res:SV} (H:(a1<0→(SV.af [I 0,I 1])=res)∧(¬a1<0→(a2<0→(SV.af [I 0,I 1])=res)∧(¬a2<0→((dC a3 a4)=false→(SV.af [I 0,I 1])=res)∧((dC a3 a4)=true→ ∃ r5 r6:Int,S 124 [I a1,I a2, .agg [I a3,I a4],I 10000] [] (.af [I r5,I r6]) []∧(SV.af [I r5,I r6])=res)))):
  S 90 [I a1,I a2, .agg [I a3,I a4]] [] res []:=by
 refine ab.st fun X hX=> ?_
 obtain⟨H1,H2⟩:=H
 refine hX.go [c_ [] (show S 123 [.agg [I a3,I a4]] [] (B (dC a3 a4)) []from Ix _ _)] ?_
 by_cases h0:a1<0
 ·obtain rfl:=H1 h0
  exact hX.e [t_ (dt h0),t_ (dt h0),t_ (dt h0),t_ rt,t_ rt,t_ rt,t_ rt]
 ·obtain⟨H1,H2⟩:=H2 h0
  refine hX.go [f_ (df h0),f_ (df h0),f_ (df h0)] ?_
  by_cases h1:a2<0
  ·obtain rfl:=H1 h1
   exact hX.e [t_ (dt h1),t_ (dt h1),t_ (dt h1),t_ rt]
  ·obtain⟨H1,H2⟩:=H2 h1
   refine hX.go [f_ (df h1),f_ (df h1),f_ (df h1)] ?_
   rcases aq (dC a3 a4)with h2|h2
   ·obtain⟨r5,r6,h3,rfl⟩:=H2 h2
    exact hX.e [f_ (nf h2),c_ [] h3]
   ·obtain rfl:=H1 h2
    exact hX.e [t_ (nt h2)]
theorem KG {o r:Int} (n d:Int) (h1:Ir o) (h2:Ir r):S 90 [I o,I r, .agg [I n,I d]] [] (IT (rH o r n d)) []:=by
 simp only[Ir,aj]at h1 h2
 have hb:o<0∨r<0→rH o r n d=(0,1):=fun c=>by
  unfold rH y4;split
  ·rw[if_pos (by omega)]
  ·rfl
 refine oG ⟨fun c=> ?_,fun c1=>⟨fun c=> ?_,fun c2=>⟨fun c=> ?_,fun c=> ?_⟩⟩⟩
 ·rw[hb (.inl c)]
 ·rw[hb (.inr c)]
 ·unfold rH;rw[c];rfl
 ·have h:=of_decide_eq_true c
  have:=FW (n:=n) (d:=d) o r 10000 (by omega) (by omega) (by omega) (by omega) (by omega) (by omega) (by omega)
  rw[show rH o r n d=y4 o r n d 10000 by unfold rH;rw[if_pos c]]
  exact⟨_,_,this,rfl⟩
theorem rj {a1 a2 a3 a4 a5 a6 a7:Int} {a8 a9 ak:Bool} {ah:Int} {a12:Bool} {a13 a14:Int} {n15:Nat} {g16:Nat→Int} {a17 a18 a19:Int} {res:SV} (H:(((al a4 a18 a19 a12 a13 a14 n15 g16).2.2)≠0→(SV.af [I 0,I ((al a4 a18 a19 a12 a13 a14 n15 g16).2.2)])=res)∧(((al a4 a18 a19 a12 a13 a14 n15 g16).2.2)=0→Ir a17∧Ir a2∧(SV.af [I ((rH a17 a2 ((al a4 a18 a19 a12 a13 a14 n15 g16).1) ((al a4 a18 a19 a12 a13 a14 n15 g16).2.1)).1),I ((rH a17 a2 ((al a4 a18 a19 a12 a13 a14 n15 g16).1) ((al a4 a18 a19 a12 a13 a14 n15 g16).2.1)).2)])=res)):
  S 89 [.agg [I a1,I a2,I a3,I a4,I a5,I a6,I a7,B a8,B a9,B ak,I ah], .agg [B a12,I a13,I a14, .sl 0 n15],I a17,I a18,I a19] [ri n15 g16] res []:=by
 refine ab.st fun X hX=> ?_
 obtain⟨H1,H2⟩:=H
 refine hX.go [c_ [0] (show S 79 [I a4,I a18,I a19, .agg [B a12,I a13,I a14, .sl 0 n15]] [ri n15 g16] (RT (al a4 a18 a19 a12 a13 a14 n15 g16)) []from Hz _ _ _)] ?_
 by_cases h0:((al a4 a18 a19 a12 a13 a14 n15 g16).2.2)=0
 ·obtain⟨h1,h2,rfl⟩:=H2 h0
  exact hX.e [f_ (bne_eq_false_iff_eq.2 h0),c_ [] (show S 122 [I a17,I a2, .agg [I ((al a4 a18 a19 a12 a13 a14 n15 g16).1),I ((al a4 a18 a19 a12 a13 a14 n15 g16).2.1)]] [] (.af [I ((rH a17 a2 ((al a4 a18 a19 a12 a13 a14 n15 g16).1) ((al a4 a18 a19 a12 a13 a14 n15 g16).2.1)).1),I ((rH a17 a2 ((al a4 a18 a19 a12 a13 a14 n15 g16).1) ((al a4 a18 a19 a12 a13 a14 n15 g16).2.1)).2)]) []from Mr _ _ h1 h2)]
 ·obtain rfl:=H1 h0
  exact hX.e [t_ (bne_iff_ne.2 h0)]
theorem LU {a1 a2 a3 a4 a5 a6 a7 ah a13 a14 a17 a18 a19:Int} {a8 a9 ak a12:Bool} {n15:Nat} {g16:Nat→Int} (h1:Ir a17) (h2:Ir a2):
  S 89 [.agg [I a1,I a2,I a3,I a4,I a5,I a6,I a7,B a8,B a9,B ak,I ah], .agg [B a12,I a13,I a14, .sl 0 n15],I a17,I a18,I a19] [ri n15 g16] (IT (HC (al a4 a18 a19 a12 a13 a14 n15 g16) a17 a2)) []:=by
 refine rj ⟨fun c=> ?_,fun c=>⟨h1,h2, ?_⟩⟩
 ·rw[show HC (al a4 a18 a19 a12 a13 a14 n15 g16) a17 a2=(0,(al a4 a18 a19 a12 a13 a14 n15 g16).2.2)from if_neg c]
 ·rw[show HC (al a4 a18 a19 a12 a13 a14 n15 g16) a17 a2=rH a17 a2 (al a4 a18 a19 a12 a13 a14 n15 g16).1 (al a4 a18 a19 a12 a13 a14 n15 g16).2.1 from if_pos c]
theorem ir {a1 a2 a3 a4 a5 a6 a7:Int} {a8 a9 ak:Bool} {ah:Int} {a12:Bool} {a13 a14:Int} {n15:Nat} {g16:Nat→Int} {a17 a18 a19:Int} {res:SV} (H:(((al a4 a18 a19 a12 a13 a14 n15 g16).2.2)≠0→(SV.af [I 0,I ((al a4 a18 a19 a12 a13 a14 n15 g16).2.2)])=res)∧(((al a4 a18 a19 a12 a13 a14 n15 g16).2.2)=0→Ir a17∧Ir a2∧(SV.af [I ((rH a17 a2 ((al a4 a18 a19 a12 a13 a14 n15 g16).1) ((al a4 a18 a19 a12 a13 a14 n15 g16).2.1)).1),I ((rH a17 a2 ((al a4 a18 a19 a12 a13 a14 n15 g16).1) ((al a4 a18 a19 a12 a13 a14 n15 g16).2.1)).2)])=res)):
  S 63 [.agg [I a1,I a2,I a3,I a4,I a5,I a6,I a7,B a8,B a9,B ak,I ah], .agg [B a12,I a13,I a14, .sl 0 n15],I a17,I a18,I a19] [ri n15 g16] res []:=by
 refine ab.st fun X hX=> ?_
 obtain⟨H1,H2⟩:=H
 refine hX.go [c_ [0] (show S 57 [I a4,I a18,I a19, .agg [B a12,I a13,I a14, .sl 0 n15]] [ri n15 g16] (RT (al a4 a18 a19 a12 a13 a14 n15 g16)) []from G5 _ _ _)] ?_
 by_cases h0:((al a4 a18 a19 a12 a13 a14 n15 g16).2.2)=0
 ·obtain⟨h1,h2,rfl⟩:=H2 h0
  exact hX.e [f_ (bne_eq_false_iff_eq.2 h0),c_ [] (show S 90 [I a17,I a2, .agg [I ((al a4 a18 a19 a12 a13 a14 n15 g16).1),I ((al a4 a18 a19 a12 a13 a14 n15 g16).2.1)]] [] (.af [I ((rH a17 a2 ((al a4 a18 a19 a12 a13 a14 n15 g16).1) ((al a4 a18 a19 a12 a13 a14 n15 g16).2.1)).1),I ((rH a17 a2 ((al a4 a18 a19 a12 a13 a14 n15 g16).1) ((al a4 a18 a19 a12 a13 a14 n15 g16).2.1)).2)]) []from KG _ _ h1 h2)]
 ·obtain rfl:=H1 h0
  exact hX.e [t_ (bne_iff_ne.2 h0)]
theorem Jt {a1 a2 a3 a4 a5 a6 a7 ah a13 a14 a17 a18 a19:Int} {a8 a9 ak a12:Bool} {n15:Nat} {g16:Nat→Int} (h1:Ir a17) (h2:Ir a2):
  S 63 [.agg [I a1,I a2,I a3,I a4,I a5,I a6,I a7,B a8,B a9,B ak,I ah], .agg [B a12,I a13,I a14, .sl 0 n15],I a17,I a18,I a19] [ri n15 g16] (IT (HC (al a4 a18 a19 a12 a13 a14 n15 g16) a17 a2)) []:=by
 refine ir ⟨fun c=> ?_,fun c=>⟨h1,h2, ?_⟩⟩
 ·rw[show HC (al a4 a18 a19 a12 a13 a14 n15 g16) a17 a2=(0,(al a4 a18 a19 a12 a13 a14 n15 g16).2.2)from if_neg c]
 ·rw[show HC (al a4 a18 a19 a12 a13 a14 n15 g16) a17 a2=rH a17 a2 (al a4 a18 a19 a12 a13 a14 n15 g16).1 (al a4 a18 a19 a12 a13 a14 n15 g16).2.1 from if_pos c]
end Go.Proofs.YtelidogcomffkaaGreatDoor
set_option linter.unusedVariables false
set_option linter.unusedSimpArgs false
set_option linter.unusedSectionVars false
namespace Go.Proofs.YtelidogcomffkaaGreatDoor
open Go Go.Sx
variable [Env]
def qy (s e n:Int):Bool:=decide (n>s∧n<e)
theorem fR {s e n:Int}:qy s e n=true↔n>s∧n<e:=by unfold qy;rw[decide_eq_true_eq]
theorem BT {s e n:Int}:qy s e n=false↔ ¬(n>s∧n<e):=by unfold qy;rw[decide_eq_false_iff_not]
def eU (st:Nat→Int×Int) (s e:Int):Nat→Nat→Nat
 |0,k=>k
 |f+1,k=>if(st k).2≠0 then k else if 1≤k∧qy s e (st k).1=false then k+1 else eU st s e f (k+1)
theorem sA {st:Nat→Int×Int} {s e:Int} {f k:Nat} (h:(st k).2≠0):eU st s e (f+1) k=k:=by unfold eU;rw[if_pos h]
theorem gk {st:Nat→Int×Int} {s e:Int} {f k:Nat} (h:(st k).2=0) (h1:1≤k) (h2:qy s e (st k).1=false):eU st s e (f+1) k=k+1:=by
 grind [eU]
theorem kp {st:Nat→Int×Int} {s e:Int} {f k:Nat} (h:(st k).2=0) (h1:k=0∨qy s e (st k).1=true):eU st s e (f+1) k=eU st s e f (k+1):=by
 grind [eU]
theorem oC {st:Nat→Int×Int} {s e:Int}: ∀ (f k:Nat),k≤eU st s e f k∧eU st s e f k≤k+f∧(∀ j,k≤j→j<eU st s e f k→(st j).2=0)∧(∀ j,k≤j→1≤j→j+1<eU st s e f k→qy s e (st j).1=true)∧
  (eU st s e f k<k+f→((st (eU st s e f k)).2≠0∧(k<eU st s e f k→2≤eU st s e f k→qy s e (st (eU st s e f k-1)).1=true))∨(k<eU st s e f k∧2≤eU st s e f k∧qy s e (st (eU st s e f k-1)).1=false))
 |0,k=>⟨Nat.le_refl _,Nat.le_refl _,fun j h1 h2=>absurd h2 (by unfold eU;omega),fun j h1 _ h2=>absurd h2 (by unfold eU;omega),fun h=>absurd h (by unfold eU;omega)⟩
 |f+1,k=>by
  by_cases h:(st k).2=0
  ·by_cases h1:1≤k∧qy s e (st k).1=false
   ·grind [gk]
   ·have h2:k=0∨qy s e (st k).1=true:=by
     grind
    rw[kp h h2]
    obtain⟨q1,q2,q3,q4,q5⟩:=oC (st:=st) (s:=s) (e:=e) f (k+1)
    grind
  grind [sA]
def mw (s e mo:Int) (back eom:Bool) (k:Nat):Int×Int:=if back=true then mv e ((k:Int)*(-mo)) eom else mv s ((k:Int)*mo) eom
def gN (s e mo:Int) (back eom:Bool):Nat:=eU (mw s e mo back eom) s e 1300 0
structure oj (s e mo:Int):Prop where
 ds:ai s=true
 de:ai e=true
 se:s<e
 m1:1≤mo
 m2:mo≤12
theorem p9 {s e mo:Int} {back eom:Bool} (h:oj s e mo):mw s e mo back eom 0=(if back=true then e else s,0):=by
 unfold mw
 cases back
 ·simp[oz h.ds]
 ·simp[oz h.de]
theorem AT {s e mo:Int} {eom:Bool} (h:oj s e mo) {k:Nat} (hk:1≤k):
  ((mw s e mo false eom k).2=0→s+28*((k:Int)*mo)-30≤(mw s e mo false eom k).1∧s<(mw s e mo false eom k).1)∧
  ((mw s e mo true eom k).2=0→(mw s e mo true eom k).1+28*((k:Int)*mo)-30≤e∧(mw s e mo true eom k).1<e):=by
 have hp:0<(k:Int)*mo:=Int.mul_pos (by omega) (by have:=h.m1;omega)
 refine⟨fun hz=> ?_,fun hz=> ?_⟩
 ·have:=Hk (n:=s) (k:=0) (k':=(k:Int)*mo) (eom:=eom) (by rw[oz h.ds]) hz hp
  rw[oz h.ds]at this
  unfold mw
  simpa using this
 ·have hz':(mv e ((k:Int)*(-mo)) eom).2=0:=by simpa[mw]using hz
  rw[Int.mul_neg]at hz'
  have:=Hk (n:=e) (k:= -((k:Int)*mo)) (k':=0) (eom:=eom) hz' (by rw[oz h.de]) (by omega)
  rw[oz h.de]at this
  unfold mw
  rw[if_pos rfl,Int.mul_neg]
  simp only at this
  omega
theorem pg {s e mo:Int} {back eom:Bool} (h:oj s e mo) (hs:e-s≤6200*mo):1≤gN s e mo back eom∧gN s e mo back eom≤250:=by
 obtain⟨q1,q2,q3,q4,q5⟩:=oC (st:=mw s e mo back eom) (s:=s) (e:=e) 1300 0
 have h0:=p9 (back:=back) (eom:=eom) h
 constructor
 ·grind [oC,kp,gN]
 ·refine Nat.not_lt.1 fun c=> ?_
  unfold gN at c
  have z:=q3 249 (by omega) (by omega)
  have b:=fR.1 (q4 249 (by omega) (by omega) (by omega))
  have hm:=h.m1
  have hp:((249:Nat):Int)*mo=249*mo:=rfl
  cases back
  ·grind [AT]
  ·have:=(AT h (k:=249) (eom:=eom) (by omega)).2 z
   omega
theorem Ht {s e mo:Int} {back eom:Bool} (h:oj s e mo) (hs:e-s≤6200*mo):
  (∀ j,j<gN s e mo back eom→(mw s e mo back eom j).2=0)∧(∀ j,1≤j→j+1<gN s e mo back eom→qy s e (mw s e mo back eom j).1=true)∧
  (((mw s e mo back eom (gN s e mo back eom)).2≠0∧(2≤gN s e mo back eom→qy s e (mw s e mo back eom (gN s e mo back eom-1)).1=true))∨(2≤gN s e mo back eom∧qy s e (mw s e mo back eom (gN s e mo back eom-1)).1=false)):=by
 grind [oC,gN,pg,mw]
end Go.Proofs.YtelidogcomffkaaGreatDoor
set_option linter.unusedVariables false
set_option linter.unusedSimpArgs false
set_option linter.unusedSectionVars false
set_option maxRecDepth 100000
namespace Go.Proofs.YtelidogcomffkaaGreatDoor
open Go Go.Sx
variable [dc]
theorem Ji (a1 a2 a3 a4 a5 a6 a7:Int) (a8 a9 ak:Bool) (ah n:Int):
  S 103 [.agg [I a1,I a2,I a3,I a4,I a5,I a6,I a7,B a8,B a9,B ak,I ah],I n] [] (B (qy a5 a6 n)) []:=by
 refine ab.st fun X hX=> ?_
 by_cases h0:n>a5
 ·exact(hX.to (show _=B (decide (n<a6))by unfold qy;by_cases h1:n<a6<;>simp[h0,h1])).e [n_ 5 (t_ (dt h0))]
 ·exact(hX.to (show _=B false by unfold qy;simp[h0])).e [n_ 5 (f_ (df h0))]
theorem oi {a1 a2 a3 a4 a5 a6 a7 ah:Int} (h:rQ a1 a2 a3 a4 a5 a6 a7 ah=0):oj a5 a6 a7:=by
 unfold rQ at h
 split at h
 ·cases h
 ·rename_i h1
  split at h
  ·cases h
  ·rename_i h2
   split at h
   ·cases h
   ·rename_i h3
    have hf:br a7≠0:=fun e=>h1 (by simp[e])
    have h4:1≤a7∧12%a7=0:=by
     by_cases c:a7<1∨12%a7≠0
     ·exact absurd (Ag c) hf
     ·omega
    refine⟨?_, ?_,by omega,h4.1, ?_⟩
    ·simp_all
    ·simp_all
    ·refine Int.not_lt.1 fun c=> ?_
     have:=Int.emod_eq_of_lt (a:=12) (b:=a7) (by decide) c
     omega
abbrev gV (T:List SV) (A b:Int) (D lp:Nat) (r:Loop) (n:Nat) (g:Nat→Int):List (Option Vw):=
 [some (.box true T),some (.box true [.val (.slice none 0 0)]),some (.box true [I 0]),some (.box true [.sl 9 n]),some (.box true T),some (.box true [I A]),some (.box true [I b]),some (.obj true D (.deferred (some []))),some (.obj true lp (.loop r)),ro n g]
abbrev Mk (T:List SV) (A b:Int) (D lp:Nat) (r:Loop) (n:Nat) (g:Nat→Int):List (Option Vw):=
 [some (.box true T),some (.box true [.val (.slice none 0 0)]),some (.box true [I 0]),some (.box true [.sl 11 n]),some (.box true T),some (.box true [I A]),some (.box true [I b]),some (.obj true D (.deferred (some []))),some (.obj true lp (.loop r)),none,none,ro n g]
abbrev gT (a1 a2 a3 a4 a5 a6 a7:Int) (a8 a9 ak:Bool) (ah:Int):List SV:=[I a1,I a2,I a3,I a4,I a5,I a6,I a7,B a8,B a9,B ak,I ah]
noncomputable abbrev fG:FuncId:=78
noncomputable abbrev fI:FuncId:=139
noncomputable abbrev cG (p:List Nat):Code:=aa Tryz.f78 p
noncomputable abbrev cI (p:List Nat):Code:=aa Tryz.f139 p
noncomputable abbrev oI (p:List Nat):Array Oper:=aU Tryz.f139 p
noncomputable abbrev KQ:List (Option SV):=bJ 36 [(1, .ptr 0 0),(2, .ptr 1 0),(3, .ptr 2 0),(5, .ptr 3 0),(13, .fn (.func fI) [] [.ptr 5 0, .ptr 6 0, .ptr 4 0])]
noncomputable abbrev kG:List Item:=[.inBlock 0, .code (cG [1,1,1,1])]
abbrev rx (D:Nat):Rx:=⟨none,[{target:= .collected D,args:= #[]}],false⟩
noncomputable abbrev Bu (T:Array Value) (D:Nat) (st:LoopState) (pd:Option Code):Loop:={state:=st,pending:=pd,fn:=fG,tmps:=T,params:= #[14],assign:=cG [1,1,1,0,1,0,0],body:=cG [1,1,1,0,1,0,1],defers:=D}
noncomputable abbrev kI:List Item:=[.inBlock 1, .code (cI [1,0,0,1]), .inLoop (cI [1,0,0]), .inBlock 0]
noncomputable abbrev Ly (lp:Nat) (k:Int) (hp:List (Option Vw)):SC:=
 ⟨[⟨fI,bJ 28 [(0, .val (.func (.yield lp) #[] #[])),(1, .ptr 5 0),(2, .ptr 6 0),(3, .ptr 4 0),(5,I k)],[.code (cI [1,0,0]), .inLoop (cI [1,0,0]), .inBlock 0],{}⟩],hp⟩
noncomputable abbrev lY (lp:Nat) (k:Int) (b2:Bool) (y:Int):List (Option SV):=bJ 28 [(0, .val (.func (.yield lp) #[] #[])),(1, .ptr 5 0),(2, .ptr 6 0),(3, .ptr 4 0),(5,I k),(22,B b2),(23, .val (.func (.yield lp) #[] #[])),(24,I y)]
noncomputable abbrev ML (lp:Nat) (k:Int) (b2:Bool) (y:Int) (hp:List (Option Vw)):SC:=
 ⟨[⟨fI,lY lp k b2 y, .inRegion (oI [1,0,0,0,0,1,0]) [5,6,7]:: .code (cI [1,0,0,0,0,1,1])::kI,{}⟩],hp⟩
noncomputable abbrev Mh (hp:List (Option Vw)):SC:=⟨[⟨fI,bJ 28 [], .code .ret::kI,{}⟩],hp⟩
noncomputable abbrev ME (lp:Nat) (y:Int) (hp:List (Option Vw)):SC:=
 ⟨[⟨fG,bJ 36 [(1, .ptr 0 0),(2, .ptr 1 0),(3, .ptr 2 0),(5, .ptr 3 0),(6,I y)],[.beginRound, .code (cG [1,1,1,0,1,0,1])],⟨some lp,[],false⟩⟩],hp⟩
noncomputable abbrev MD (lp:Nat) (y:Int) (hp:List (Option Vw)):SC:=
 ⟨[⟨fG,bJ 36 [(1, .ptr 0 0),(2, .ptr 1 0),(3, .ptr 2 0),(5, .ptr 3 0),(6,I y)],[.code (cG [1,1,1,0,1,0,1])],⟨some lp,[],false⟩⟩],hp⟩
noncomputable abbrev MB (lp:Nat) (hp:List (Option Vw)):SC:=⟨[⟨fG,bJ 36 [],[.code (.exit 0), .inBlock 1],⟨some lp,[],false⟩⟩],hp⟩
noncomputable abbrev MC (lp:Nat) (hp:List (Option Vw)):SC:=⟨[⟨fG,bJ 36 [],[],⟨some lp,[],false⟩⟩],hp⟩
noncomputable abbrev Mm (D:Nat) (pd:Option Code) (hp:List (Option Vw)):SC:=⟨[⟨fG,KQ,(pd.map Item.code).toList++kG,rx D⟩],hp⟩
theorem Eo {X:Cx} {a1 a2 a3 a4 a5 a6 a7:Int} {a8 a9 ak:Bool} {ah A b:Int} {D lp n:Nat} {r:Loop} {g:Nat→Int} {y:Int} (hX:pV X Tryz.prog GL 10) (hn:n≤1000)
  (q:Nat→Int) (hq: ∀ k,k<(n+1)→q k=if k<n then(g k)else y)
  (kX:1≤n→qy a5 a6 y=false→Ok X (MB lp (Mk (gT a1 a2 a3 a4 a5 a6 a7 a8 a9 ak ah) A b D lp r (n+1) q)))
  (kE:n=0∨qy a5 a6 y=true→Ok X (MC lp (Mk (gT a1 a2 a3 a4 a5 a6 a7 a8 a9 ak ah) A b D lp r (n+1) q))):
  Ok X (MD lp y (gV (gT a1 a2 a3 a4 a5 a6 a7 a8 a9 ak ah) A b D lp r n g)):=by
 have h1:(n+1)*8≤140737488355328:=by omega
 refine hX.go [q_ (show ∀ k,k<1→(fun i=>[I y]) k=[[I y]].getD k []from by intro k hk;match k,hk with|0,_=>rfl|k+1,hk=>omega),q_ (re 1),q_ (re n),q_ h1,q_ (show ∀ k,k<n+1→(fun i=>[I (q i)]) k=if k<n then(fun i=>[I (g i)]) k else(fun i=>[I y]) (k-n)from fun k hk=>by
   have e0:=hq k hk
   by_cases c:k<n
   ·simp_all
   ·rw[if_neg c]at e0⊢;simp only[e0]),h_ [.row (fun i=>[I y]), .row (fun i=>[I (q i)])]] ?_
 have h2: ¬(((n+1):Nat):Int)>1202:=by omega
 refine hX.go [f_ (df h2)] ?_
 by_cases h3:(((n+1):Nat):Int)>1
 ·refine hX.go [n_ 3 (t_ (dt h3)),c_ [] (Ji a1 a2 a3 a4 a5 a6 a7 a8 a9 ak ah y),t_ (dt h3),t_ (dt h3)] ?_
  rcases aq (qy a5 a6 y)with h4|h4
  ·exact hX.h 3 [f_ (nf h4)] (aA 12) (kE (.inr h4))
  ·exact hX.h 1 [t_ (nt h4)] (aA 12) (kX (by omega) h4)
 ·exact hX.h 9 [n_ 5 (f_ (df h3)),f_ rf] (aA 12) (kE (.inl (by omega)))
theorem Gh {X:Cx} {n0:Nat} (hX:pV X Tryz.prog GL n0) {a1 a2 a3 a4 a5 a6 a7:Int} {a8 a9 ak:Bool} {ah A b:Int} {T:Array Value} {θ:Th} {D lp N:Nat} (st:Nat→Int×Int)
  (hst: ∀ k:Nat,st k=mv A ((k:Int)*b) ak) (hb: -12≤b∧b≤12) (hN:N≤1000) (hT: ∀ θ',az 7 θ θ'→eV θ' KQ T) (hold:az X.n0 X.θ0 θ) (hn:X.n0≤7)
  (hE: ∀ pd g,(pd=none∨pd=some (.exit 0))→(∀ i,i<N→g i=(st i).1)→Ok X (Mm D pd (gV (gT a1 a2 a3 a4 a5 a6 a7 a8 a9 ak ah) A b D lp (Bu T D .exhausted pd) N g))):
  ∀ (f k:Nat) (g:Nat→Int),k+f=1300→eU st a5 a6 f k=N→(∀ i,i<k→g i=(st i).1)→
    Ok (X.fy θ 7 (au (rx D) fG T (.inRangeFunc lp::kG)::X.cs)) (Ly lp k (gV (gT a1 a2 a3 a4 a5 a6 a7 a8 a9 ak ah) A b D lp (Bu T D .ready none) k g)):=by
 intro f
 induction f with
 |zero=>intro k g h1 h2 _;exact absurd h2 (by unfold eU;omega)
 |succ f ih=>
  intro k g hk hc hg
  have hkN:k≤N:=by rw[←hc];exact(oC (f+1) k).1
  have hX1:=hX.fy θ 7 (au (rx D) fG T (.inRangeFunc lp::kG)::X.cs)
  have m1:(k:Int)*b≤(k:Int)*12:=Int.mul_le_mul_of_nonneg_left hb.2 (by omega)
  have m2:(k:Int)*(-12)≤(k:Int)*b:=Int.mul_le_mul_of_nonneg_left hb.1 (by omega)
  have h0:Ir ((k:Int)*b):=by simp only[Ir,aj];omega
  have hk2:=hst k
  refine hX1.go [q_ h0,c_ [] (Kx A ((k:Int)*b) ak)] ?_
  by_cases h1:(mv A ((k:Int)*b) ak).2=0
  ·have hz:(st k).2=0:=by rw[hk2];exact h1
   have hbf:=bne_eq_false_iff_eq.2 h1
   refine hX1.h 2 [f_ hbf,f_ hbf] (aA 10) (show Ok _ (ML lp k ((mv A ((k:Int)*b) ak).2 !=0) (mv A ((k:Int)*b) ak).1 (gV (gT a1 a2 a3 a4 a5 a6 a7 a8 a9 ak ah) A b D lp (Bu T D .ready none) k g))from ?_)
   refine Ok.yield (tl:=8) (lr:=KQ) [.b false] (qs:=[((mv A ((k:Int)*b) ak).2 !=0)=false]) (vs:=[I (mv A ((k:Int)*b) ak).1]) (dst:=some 25) (by kernel_rfl) ⟨hbf,trivial⟩ rfl rfl hT ?_
   intro θ2 T2 hT2 hs2 hn2
   have hX2:=hX1.fy θ2 10 (au {} fI T2 (.inRegion (oI [1,0,0,0,0,1,0]) (5::[6,7]):: .code (cI [1,0,0,0,0,1,1])::kI)::(au (rx D) fG T (.inRangeFunc lp::kG)::X.cs))
   refine hX2.h 3 [] (aA 10) (show Ok _ (ME lp (mv A ((k:Int)*b) ak).1 (gV (gT a1 a2 a3 a4 a5 a6 a7 a8 a9 ak ah) A b D lp (Bu T D .ready none) k g))from ?_)
   refine Ok.beginRound (tl:=8) (r:=Bu T D .ready none) rfl rfl ?_
   refine Eo (r:=Bu T D .busy none) hX2 (by omega) (fun i=>(st i).1) (fun i hi=> ?_) (fun c1 c2=> ?_) (fun c1=> ?_)
   ·grind
   ·refine Ok.endRound (X:=X.fy θ 7 _) (tl:=8) (r:=Bu T D .busy none) (j:=some (.exit 0)) (dst:=some 25) (.exit rfl) hT2 hs2 hn2 (by kernel_rfl) rfl ?_
    refine hX1.h 4 [f_ hbf,f_ hbf,t_ rt] [.ae 0, .ae 1, .ae 2, .ae 3, .ae 4, .ae 5, .ae 6, .ae 7, .ae 8, .ae 11] (show Ok _ (Mh (gV (gT a1 a2 a3 a4 a5 a6 a7 a8 a9 ak ah) A b D lp (Bu T D .done (some (.exit 0))) (k+1) (fun i=>(st i).1)))from ?_)
    have hN':N=k+1:=by rw[←hc];exact gk hz c1 (by rw[hk2];exact c2)
    refine Ok.sr (tl:=8) (r:=Bu T D .done (some (.exit 0))) (F:=Tryz.f139) (.inr ⟨_,rfl⟩) (by rw[show(X.P)=Tryz.prog from hX.P];kernel_rfl) (by kernel_rfl) hT hold hn rfl (fun e=>by cases e) ?_
    rw[←hN']
    exact hE _ _ (.inr rfl) (fun i hi=>rfl)
   ·refine Ok.endRound (X:=X.fy θ 7 _) (tl:=8) (r:=Bu T D .busy none) (j:=none) (dst:=some 25) .off hT2 hs2 hn2 (by kernel_rfl) rfl ?_
    have h5:Ir ((k:Int)+1):=by simp only[Ir,aj];omega
    refine hX1.h 12 [f_ hbf,f_ hbf,f_ rf,q_ h5] [.ae 0, .ae 1, .ae 2, .ae 3, .ae 4, .ae 5, .ae 6, .ae 7, .ae 8, .ae 11] (show Ok _ (Ly lp ((k:Int)+1) (gV (gT a1 a2 a3 a4 a5 a6 a7 a8 a9 ak ah) A b D lp (Bu T D .ready none) (k+1) (fun i=>(st i).1)))from ?_)
    exact ih (k+1) _ (by omega) (by rw[←hc];exact(kp hz (by rw[hk2];exact c1)).symm) (fun i hi=>rfl)
  ·have hz:(st k).2≠0:=by rw[hk2];exact h1
   refine hX1.h 7 [n_ 5 (t_ (bne_iff_ne.2 h1)),t_ rt] (aA 10) (show Ok _ (Mh (gV (gT a1 a2 a3 a4 a5 a6 a7 a8 a9 ak ah) A b D lp (Bu T D .ready none) k g))from ?_)
   have hN':N=k:=by rw[←hc];exact sA hz
   refine Ok.sr (tl:=8) (r:=Bu T D .ready none) (F:=Tryz.f139) (.inr ⟨_,rfl⟩) (by rw[show(X.P)=Tryz.prog from hX.P];kernel_rfl) (by kernel_rfl) hT hold hn rfl (fun e=>by cases e) ?_
   rw[←hN']
   rw[←hN']at hg
   exact hE _ _ (.inl rfl) hg
noncomputable abbrev MO (D:Nat) (hp:List (Option Vw)):SC:=⟨[⟨fG,bJ 36 [(1, .ptr 0 0),(2, .ptr 1 0),(3, .ptr 2 0),(5, .ptr 3 0)],[.code (cG [1,1,1,1])],rx D⟩],hp⟩
noncomputable abbrev cR (p:List Nat):Code:=aa Tryz.f109 p
noncomputable abbrev Ik (D n:Nat) (x1 x2:Int) (hp:List (Option Vw)):SC:=
 ⟨[⟨109,bJ 28 [(0, .sl 9 n),(2,I x1),(3,I x2)],[.code (cR [1,0,0]), .inLoop (cR [1,0,0]), .inBlock 0],{}⟩,⟨fG,bJ 36 [(2, .ptr 1 0),(3, .ptr 2 0),(5, .ptr 3 0),(33, .sl 9 n)],[.inRegion (aU Tryz.f78 [1,1,1,1,0,1,0]) [1], .code (cG [1,1,1,1,1])],rx D⟩],hp⟩
abbrev Mj (T:List SV) (A b:Int) (D lp:Nat) (r:Loop) (n:Nat) (g:Nat→Int):List (Option Vw):=
 [some (.box true T),some (.box true [.sl 9 n]),some (.box true [I 0]),some (.box true [.sl 9 n]),some (.box true T),some (.box true [I A]),some (.box true [I b]),some (.obj true D (.deferred (some []))),some (.obj true lp (.loop r)),ro n g]
noncomputable abbrev Ml (D:Nat) (hp:List (Option Vw)):SC:=⟨[⟨fG,bJ 36 [(2, .ptr 1 0),(3, .ptr 2 0)],[.code .ret],rx D⟩],hp⟩
theorem I3 {X:Cx} (hX:pV X Tryz.prog GL 0) {a1 a2 a3 a4 a5 a6 a7:Int} {a8 a9 ak:Bool} {ah A b:Int} {D lp n:Nat} {r:Loop} {g:Nat→Int} (hn:n≤1000)
  (K: ∀ c:Nat→Int,(∀ k,k<n→c k=g (n-1-k))→Ok X (Ml D (Mj (gT a1 a2 a3 a4 a5 a6 a7 a8 a9 ak ah) A b D lp r n c))): ∀ (f i:Nat) (x1 x2:Int) (c:Nat→Int),x1=(i:Int)→x2=(n:Int)-1-(i:Int)→n≤2*i+f→2*i≤n+1→(∀ k,k<n→c k=if k<i∨n≤k+i then g (n-1-k)else g k)→
   Ok X (Ik D n x1 x2 (gV (gT a1 a2 a3 a4 a5 a6 a7 a8 a9 ak ah) A b D lp r n c)):=by
 intro f
 induction f with
 |zero=>
  intro i x1 x2 c e1 e2 hf hi hc
  have h0: ¬x1<x2:=by omega
  refine hX.h 17 [f_ (df h0)] (aA 10) (K c fun k hk=> ?_)
  grind
 |succ f ih=>
  intro i x1 x2 c e1 e2 hf hi hc
  by_cases h0:x1<x2
  ·have h1:(0:Int)≤x2∧x2<((n:Nat):Int):=by omega
   have h2:(0:Int)≤x1∧x1<((n:Nat):Int):=by omega
   have h5:Ir (x1+1):=by simp only[Ir,aj];omega
   have h6:Ir (x2-1):=by simp only[Ir,aj];omega
   obtain⟨q1,h3⟩: ∃ q1:Nat→Int, ∀ k,k<n→q1 k=if k=x1.toNat then(c x2.toNat)else(c k):=⟨_,fun k _=>rfl⟩
   obtain⟨q2,h4⟩: ∃ q2:Nat→Int, ∀ k,k<n→q2 k=if k=x2.toNat then(c x1.toNat)else(q1 k):=⟨_,fun k _=>rfl⟩
   refine hX.h 25 [t_ (dt h0),q_ h1,q_ (re n),q_ h1,q_ h2,q_ (re n),q_ h2,q_ h2,q_ (re n),q_ (show(.sl 9 n:SV)= .sl 9 n from rfl),q_ (re (I x2)),q_ h2,q_ (show ∀ k,k<n→(fun i=>[I (q1 i)]) k=if k=x1.toNat then fa ((fun i=>[I (c i)]) k) 0 [I (c x2.toNat)]else(fun i=>[I (c i)]) k from fun k hk=>by
    have e0:=h3 k hk
    by_cases c:k=x1.toNat
    ·rw[if_pos c]at e0⊢;simp only[e0];try rfl
    ·rw[if_neg c]at e0⊢;simp only[e0]),q_ (show(.sl 9 n:SV)= .sl 9 n from rfl),q_ (re (I x2)),q_ h1,q_ (re n),q_ h1,q_ (show ∀ k,k<n→(fun i=>[I (q2 i)]) k=if k=x2.toNat then fa ((fun i=>[I (q1 i)]) k) 0 [I (c x1.toNat)]else(fun i=>[I (q1 i)]) k from fun k hk=>by
    have e0:=h4 k hk
    by_cases c:k=x2.toNat
    ·rw[if_pos c]at e0⊢;simp only[e0];try rfl
    ·rw[if_neg c]at e0⊢;simp only[e0]),q_ h5,q_ h6,h_ [.draw 13 [2,3] 1, .row (fun i=>[I (q1 i)]), .row (fun i=>[I (q2 i)])]] (aA 10) (show Ok X (Ik D n (x1+1) (x2-1) (gV (gT a1 a2 a3 a4 a5 a6 a7 a8 a9 ak ah) A b D lp r n q2))from ih (i+1) _ _ q2 (by omega) (by omega) (by omega) (by omega) (fun k hk=> ?_))
   grind
  ·refine hX.h 17 [f_ (df h0)] (aA 10) (K c fun k hk=> ?_)
   grind
theorem I4 {X:Cx} (hX:pV X Tryz.prog GL 0) {a1 a2 a3 a4 a5 a6 a7:Int} {a8 a9 ak:Bool} {ah A b:Int} {D lp n:Nat} {r:Loop} {g:Nat→Int} (hn:n≤1000) (hn1:1≤n)
  (K: ∀ c:Nat→Int,(∀ k,k<n→c k=g (if a8=true then n-1-k else k))→Ok X (Ml D (Mj (gT a1 a2 a3 a4 a5 a6 a7 a8 a9 ak ah) A b D lp r n c))) (pd:Option Code) (hp:pd=none∨pd=some (.exit 0)):
  Ok X (Mm D pd (gV (gT a1 a2 a3 a4 a5 a6 a7 a8 a9 ak ah) A b D lp r n g)):=by
 have key:Ok X (MO D (gV (gT a1 a2 a3 a4 a5 a6 a7 a8 a9 ak ah) A b D lp r n g)):=by
  rcases aq a8 with h0|h0
  ·have h1:Ir (((n:Nat):Int)-1):=by simp only[Ir,aj];omega
   refine hX.h 20 [t_ h0,q_ h1,i_] (aA 10) (show Ok X (Ik D n 0 (((n:Nat):Int)-1) (gV (gT a1 a2 a3 a4 a5 a6 a7 a8 a9 ak ah) A b D lp r n g))from I3 (g:=g) hX hn (fun c hc=>K c fun k hk=> ?_) n 0 _ _ g rfl (by omega) (by omega) (by omega) (fun k hk=> ?_))
   all_goals grind
  ·exact hX.h 14 [f_ h0] (aA 10) (K g fun k hk=>by rw[if_neg (by rw[h0];decide)])
 rcases hp with rfl|rfl
 ·exact hX.h 1 [] (aA 10) key
 ·exact hX.h 1 [] (aA 10) key
def Af (a1 a2 a3 a4 a5 a6 a7:Int) (a8 ak:Bool) (ah:Int):Nat:=if rQ a1 a2 a3 a4 a5 a6 a7 ah=0 then gN a5 a6 a7 a8 ak else 0
def oF (s e mo:Int) (back eom:Bool) (i:Nat):Int:=(mw s e mo back eom (if back=true then gN s e mo back eom-1-i else i)).1
theorem yF {X:Cx} {a1 a2 a3 a4 a5 a6 a7:Int} {a8 a9 ak:Bool} {ah A b:Int} (hX:av X Tryz.prog GL fG [] (.af [.sl 0 (gN a5 a6 a7 a8 ak),I 0]) [ro (gN a5 a6 a7 a8 ak) (oF a5 a6 a7 a8 ak)])
  (hL:oj a5 a6 a7) (hs:a6-a5≤6200*a7) (hst: ∀ k:Nat,mw a5 a6 a7 a8 ak k=mv A ((k:Int)*b) ak) (hb: -12≤b∧b≤12):
  Ok X ⟨[⟨fG,KQ, .code (.rangeFunc (.tmp 13) #[14] (cG [1,1,1,0,1,0,0]) (cG [1,1,1,0,1,0,1]))::kG,{}⟩],
   [some (.box true (gT a1 a2 a3 a4 a5 a6 a7 a8 a9 ak ah)),some (.box true [.val (.slice none 0 0)]),some (.box true [I 0]),some (.box true [.val (.slice none 0 0)]),some (.box true (gT a1 a2 a3 a4 a5 a6 a7 a8 a9 ak ah)),some (.box true [I A]),some (.box true [I b])]⟩:=by
 have hN:=pg (back:=a8) (eom:=ak) hL hs
 refine Ok.rangeFunc (gf:=fI) (bs:=[.ptr 5 0, .ptr 6 0, .ptr 4 0]) (F:=Tryz.f139) (b:=cI []) (by kernel_rfl) (by rw[show(X.P)=Tryz.prog from hX.P];kernel_rfl) (by kernel_rfl) (by kernel_rfl) ?_
 intro θ T D lp hT hold hn
 have hX1:=hX.LA.fy θ 7 (au (rx D) fG T (.inRangeFunc lp::kG)::X.cs)
 refine hX1.h 6 [] [.ae 0, .ae 1, .ae 2, .ae 3, .ae 4, .ae 5, .ae 6, .ae 7, .ae 8, .nil 1] (show Ok _ (Ly lp ((0:Nat):Int) (gV (gT a1 a2 a3 a4 a5 a6 a7 a8 a9 ak ah) A b D lp (Bu T D .ready none) 0 (fun _=>0)))from ?_)
 refine Gh hX.LA (N:=gN a5 a6 a7 a8 ak) (mw a5 a6 a7 a8 ak) hst hb (by omega) hT hold hn (fun pd g hpd hg=> ?_) 1300 0 _ rfl rfl (fun i hi=>absurd hi (Nat.not_lt_zero _))
 refine I4 hX.LA (by omega) hN.1 (fun c hc=> ?_) pd hpd
 refine Ok.leave (tD:=7) (hp0:=[]) (av.same hX (new':=[ro (gN a5 a6 a7 a8 ak) c]) ⟨⟨rfl,rfl,rfl,rfl,fun i hi=> ?_⟩,trivial⟩) [9] rfl (by kernel_rfl)
 grind [oF]
theorem Hy (a1 a2 a3 a4 a5 a6 a7:Int) (a8 a9 ak:Bool) (ah:Int) (hs:rQ a1 a2 a3 a4 a5 a6 a7 ah=0→a6-a5≤6200*a7):
  S 78 [.agg [I a1,I a2,I a3,I a4,I a5,I a6,I a7,B a8,B a9,B ak,I ah]] [] (.af [.sl 0 (Af a1 a2 a3 a4 a5 a6 a7 a8 ak ah),I (rQ a1 a2 a3 a4 a5 a6 a7 ah)]) [ro (Af a1 a2 a3 a4 a5 a6 a7 a8 ak ah) (oF a5 a6 a7 a8 ak)]:=by
 refine ab.st fun X hX=> ?_
 refine hX.go [c_ [] (HT a1 a2 a3 a4 a5 a6 a7 a8 a9 ak ah)] ?_
 by_cases h0:(rQ a1 a2 a3 a4 a5 a6 a7 ah)=0
 ·have hL:=oi h0
  obtain⟨l1,l2,l3,l4,l5⟩:=hL
  rw[show Af a1 a2 a3 a4 a5 a6 a7 a8 ak ah=gN a5 a6 a7 a8 ak from if_pos h0,h0]at hX
  refine hX.go [f_ (bne_eq_false_iff_eq.2 h0),q_ (show(.ptr 4 6:SV)= .ptr 4 6 from rfl),q_ (re (I a7)),q_ (show(.ptr 4 6:SV)= .ptr 4 6 from rfl),q_ (re (I a7)),i_,h_ [.draw 6 [2,3] 1]] ?_
  rcases aq a8 with h1|h1
  ·have h2:Ir (0-a7):=by simp only[Ir,aj];omega
   refine hX.h 12 [t_ h1,q_ h2,q_ (show(.ptr 4 6:SV)= .ptr 4 6 from rfl),q_ (re (I a7)),q_ (show(I (0-a7):SV)=I (0-a7)from rfl),q_ h2,q_ (show(.ptr 4 6:SV)= .ptr 4 6 from rfl),q_ (re (I a7)),q_ (show(I (0-a7):SV)=I (0-a7)from rfl),q_ h2,h_ [.draw 5 [2,3,4] 1]] (aA 7) (yF (a1:=a1) (a2:=a2) (a3:=a3) (a4:=a4) (a9:=a9) (ah:=ah) (A:=a6) (b:=0-a7) hX ⟨l1,l2,l3,l4,l5⟩ (hs h0) (fun k=> ?_) (by omega))
   grind [mw]
  ·refine hX.h 10 [f_ h1] (aA 7) (yF (a1:=a1) (a2:=a2) (a3:=a3) (a4:=a4) (a9:=a9) (ah:=ah) (A:=a5) (b:=a7) hX ⟨l1,l2,l3,l4,l5⟩ (hs h0) (fun k=> ?_) (by omega))
   grind [mw]
 ·rw[show Af a1 a2 a3 a4 a5 a6 a7 a8 ak ah=0 from if_neg h0]at hX
  exact(av.Bp hX).e [t_ (bne_iff_ne.2 h0)]
end Go.Proofs.YtelidogcomffkaaGreatDoor
