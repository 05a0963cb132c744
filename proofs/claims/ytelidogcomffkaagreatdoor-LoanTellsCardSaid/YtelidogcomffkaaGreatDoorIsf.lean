/-
errors.Is, at a target of errors.New's make: nil, and errors of the program's own types that wrap such a one. (Turned from the worked example of the kit.)
-/
import Derived.Test.YtelidogcomffkaaGreatDoorIs
import Derived.Test.YtelidogcomffkaaGreatDoorProg
import Derived.WalkKit
import Derived.LaidEql
import Derived.Stop.Asserts
import Derived.RowKitTokens
set_option linter.unusedSectionVars false
set_option linter.unusedSimpArgs false
set_option linter.unusedVariables false
set_option maxHeartbeats 4000000
set_option maxRecDepth 100000
namespace Go.Proofs.YtelidogcomffkaaGreatDoor
open Go Go.Sx Go.RowKit Go.Extern.Stop Go.Stop Go.Extern
theorem Is.J9 (v:Value) (xT:TypeId) (w:World):(Instr.typeAssert (.iface 205 v) xT 318 true).run Tryz.prog w= .ok (.tuple #[.nilIface, .bool false]) w:=run_typeAssert_lacksB Tryz.underlying318 (by kernel_rfl) (by kernel_rfl) v xT w
theorem Is.Ac (v:Value) (xT:TypeId) (w:World):(Instr.typeAssert (.iface 205 v) xT 294 true).run Tryz.prog w= .ok (.tuple #[.iface 205 v, .bool true]) w:=run_typeAssert_hasB Tryz.underlying294 (by kernel_rfl) v xT w
theorem Is.uV (v:Value) (w:World):(Go.method 474 205 v "Unwrap").run Tryz.prog w= .ok (290,v) w:=by kernel_rfl
theorem Fw (a:Int) (s:ByteArray) (x:Addr) (w:World) (hv:w.cell? ⟨1,0,none⟩=some (bK x)):Calls Tryz.prog 290 #[.agg #[.int .i64 a, .string s]] w fun e w'=>e= .returned (bK x)∧w'=w.alloc (.cells #[.int .i64 a, .string s] 205):=by
 have hv':(w.alloc (.cells #[.int .i64 a, .string s] 205)).cell? ⟨1,0,none⟩=some (bK x):=by
  rw[World.cell?_alloc_lt _ _ _ (World.block_lt_of_cell? w _ hv)];exact hv
 go_enter Tryz.func290,Tryz.ntmps290
 go_wp2
 go_ret
 exact⟨rfl,rfl⟩
theorem Eh (a:Int) (s:ByteArray) (x:Addr) (w:World) (hv:w.cell? ⟨1,0,none⟩=some (bK x)):
  Calls Tryz.prog 171 #[.iface 205 (.agg #[.int .i64 a, .string s]),bK x] w fun e w'=>e= .returned (.bool true)∧w'=w.alloc (.cells #[.int .i64 a, .string s] 205):=by
 obtain⟨i,hi,hcmp⟩:=Option.map_eq_some_iff.1 Is.comp
 obtain⟨j,hj,hjs⟩:=Option.map_eq_some_iff.1 Is.size
 have h8:= @run_callFunc_extern Tryz.prog 213 _ Extern.ReflectliteType.typeOf Tryz.func213 (by kernel_rfl) (by kernel_rfl) (by kernel_rfl) (by kernel_rfl)
 have h32:= @run_callFunc_extern Tryz.prog 297 _ (Extern.ReflectliteType.method fun t=>do Go.Extern.Rtype.noPackHeld "Comparable" t;pure (.bool (←typeInfo t).comparable)) Tryz.func297 (by kernel_rfl) (by kernel_rfl) (by kernel_rfl) (by kernel_rfl)
 have tT:=Is.typeOf
 have cT:=Is.comparable
 have mR:=Is.iP
 have nE:=Is.Hf
 have uE:=Is.vQ
 have vE:=Is.tv
 have nW:=Is.J9
 have uW:=Is.Ac
 have mU:=Is.uV
 have hty:=run_eql_iface_types (P:=Tryz.prog) 205 343 (.agg #[.int .i64 a, .string s]) (.pointer (some x)) Tryz.underlying209 (by decide) w
 have heq:=run_eql_iface_ptr_same (P:=Tryz.prog) (w.alloc (.cells #[.int .i64 a, .string s] 205)) x Tryz.underlying209 Tryz.underlying343 hi hcmp hj
 go_enter Tryz.func171,Tryz.ntmps171
 go_wp2
 refine wp_loop_rounds 2 ?_
 rw[rounds_succ]
 go_wp2_with (first|(go_at_call 290;refine(Fw a s x _ hv).mono ?_;rintro e w' ⟨rfl,rfl⟩)|go_in)
 rw[rounds_succ]
 go_wp2
 go_ret
 exact⟨rfl,rfl⟩
class dc where
 n0:Addr
 n1:Addr
 ne:n0≠n1
 n2:Addr
def JJ (i:Nat):ByteArray:=[(⟨#[98,117,108,108,101,116]⟩:ByteArray),(⟨#[101,113,117,97,108]⟩:ByteArray),(⟨#[108,101,118,101,108]⟩:ByteArray)].getD i default
def zn (i:Nat):ByteArray:=[(⟨#[110,111,110,101]⟩:ByteArray),(⟨#[102,111,108,108,111,119,105,110,103]⟩:ByteArray),(⟨#[109,111,100,102,111,108,108,111,119,105,110,103]⟩:ByteArray),(⟨#[112,114,101,99,101,100,105,110,103]⟩:ByteArray),(⟨#[109,111,100,112,114,101,99,101,100,105,110,103]⟩:ByteArray)].getD i default
instance Ew [dc]:Env where
 n0:=dc.n0
 n1:=dc.n1
 ne:=dc.ne
 more:=[(1, .box false [.val (bK dc.n2)]),(3, .row false 9 3 1 (fun i=>[.val (.string (JJ i))])),(4, .row false 9 5 1 (fun i=>[.val (.string (zn i))]))]
section
variable [dc]
theorem Cv (a:Int) (s:ByteArray):ab Tryz.prog GL 171 [.dZ 205 (.agg [I a, .val (.string s)]), .val (bK dc.n2)] [] (B true) []:=
 zx fun θ w hG=>(Eh a s dc.n2 w ((((hG 1 (.box false [.val (bK dc.n2)]) (List.mem_append_right _ (List.mem_append_left _ (show _∈[_,_,_]from .head _)))).2 (fun _=>⟨none,0,0⟩)).1 0 _ rfl))).mono fun e w' h=>⟨h.1,by rw[h.2];exact(Go.RowKit.Below.refl _ _).alloc (Nat.le_refl _) _⟩
end
end Go.Proofs.YtelidogcomffkaaGreatDoor
