/-
errors.Is, at a target of errors.New's make: nil, and errors of the program's own types that wrap such a one. (Turned from the worked example of the kit.)
-/
import Derived.Test.YtelidogcomffkaaGreatDoorD64
import Derived.Test.YtelidogcomffkaaGreatDoorProg
import Derived.WalkKit
import Derived.LaidEql
import Derived.Stop.Asserts
import Derived.RowKitTokens
set_option linter.unusedSectionVars false
set_option linter.unusedSimpArgs false
set_option linter.unusedVariables false
set_option maxHeartbeats 4000000
set_option maxRecDepth 100000
namespace Go.Proofs.YtelidogcomffkaaGreatDoor
open Go Go.Sx Go.RowKit Go.Extern.Stop Go.Stop Go.Extern
theorem Is.typeOf (v:Value) (w:World):(Extern.ReflectliteType.typeOf #[.iface 343 v]).run Tryz.prog w= .ok (.iface 287 (.agg #[.pointer (some ⟨9,343,none⟩)])) w:=by kernel_rfl
theorem Is.comparable (w:World):((Extern.ReflectliteType.method fun t=>do Go.Extern.Rtype.noPackHeld "Comparable" t;(fun a=>Value.bool a.comparable) <$> typeInfo t) #[.agg #[.pointer (some ⟨9,343,none⟩)]]).run Tryz.prog w= .ok (.bool true) w:=by kernel_rfl
theorem Is.iP (v:Value) (w:World):(Go.method 474 287 v "Comparable").run Tryz.prog w= .ok (297,v) w:=by kernel_rfl
theorem Is.comp:(Tryz.prog.info? 343).map (·.comparable)=some true:=by kernel_rfl
theorem Is.size:(Tryz.prog.info? 363).map (·.size)=some 1:=by kernel_rfl
theorem Is.Hf (v:Value) (xT:TypeId) (w:World):(Instr.typeAssert (.iface 343 v) xT 318 true).run Tryz.prog w= .ok (.tuple #[.nilIface, .bool false]) w:=run_typeAssert_lacksB Tryz.underlying318 (by kernel_rfl) (by kernel_rfl) v xT w
theorem Is.vQ (v:Value) (xT:TypeId) (w:World):(Instr.typeAssert (.iface 343 v) xT 294 true).run Tryz.prog w= .ok (.tuple #[.nilIface, .bool false]) w:=run_typeAssert_lacksB Tryz.underlying294 (by kernel_rfl) (by kernel_rfl) v xT w
theorem Is.tv (v:Value) (xT:TypeId) (w:World):(Instr.typeAssert (.iface 343 v) xT 296 true).run Tryz.prog w= .ok (.tuple #[.nilIface, .bool false]) w:=run_typeAssert_lacksB Tryz.underlying296 (by kernel_rfl) (by kernel_rfl) v xT w
theorem IY (b:Addr) (w:World):
  Calls Tryz.prog 171 #[.nilIface,bK b] w fun e w'=>e= .returned (.bool false)∧w'=w:=by
 have hn:=run_eql_iface_nil_left (P:=Tryz.prog) w 343 (.pointer (some b)) Tryz.underlying209
 go_enter Tryz.func171,Tryz.ntmps171
 go_wp2
 go_ret
 exact⟨rfl,rfl⟩
theorem Is.J8 (v:Value) (xT:TypeId) (w:World):(Instr.typeAssert (.iface 322 v) xT 318 true).run Tryz.prog w= .ok (.tuple #[.nilIface, .bool false]) w:=run_typeAssert_lacksB Tryz.underlying318 (by kernel_rfl) (by kernel_rfl) v xT w
theorem Is.Ab (v:Value) (xT:TypeId) (w:World):(Instr.typeAssert (.iface 322 v) xT 294 true).run Tryz.prog w= .ok (.tuple #[.iface 322 v, .bool true]) w:=run_typeAssert_hasB Tryz.underlying294 (by kernel_rfl) v xT w
theorem Is.uU (v:Value) (w:World):(Go.method 474 322 v "Unwrap").run Tryz.prog w= .ok (309,v) w:=by kernel_rfl
theorem AP (a b:Int) (x:Addr) (w:World):Calls Tryz.prog 309 #[.agg #[.int .i64 a, .int .i64 b,bK x]] w fun e w'=>e= .returned (bK x)∧w'=w.alloc (.cells #[.int .i64 a, .int .i64 b,bK x] 322):=by
 go_enter Tryz.func309,Tryz.ntmps309
 go_wp2
 go_ret
 exact⟨rfl,rfl⟩
theorem Ge (a b:Int) (x y:Addr) (w:World) (hx:x≠y→ ∃ c t,w.heap[x.block]? =some (.cells c t (0,0))) (hy:x≠y→ ∃ c t,w.heap[y.block]? =some (.cells c t (0,0))):
  Calls Tryz.prog 171 #[.iface 322 (.agg #[.int .i64 a, .int .i64 b,bK x]),bK y] w fun e w'=>e= .returned (.bool (decide (x=y)))∧w'=w.alloc (.cells #[.int .i64 a, .int .i64 b,bK x] 322):=by
 obtain⟨i,hi,hcmp⟩:=Option.map_eq_some_iff.1 Is.comp
 obtain⟨j,hj,hjs⟩:=Option.map_eq_some_iff.1 Is.size
 have h8:= @run_callFunc_extern Tryz.prog 213 _ Extern.ReflectliteType.typeOf Tryz.func213 (by kernel_rfl) (by kernel_rfl) (by kernel_rfl) (by kernel_rfl)
 have h32:= @run_callFunc_extern Tryz.prog 297 _ (Extern.ReflectliteType.method fun t=>do Go.Extern.Rtype.noPackHeld "Comparable" t;pure (.bool (←typeInfo t).comparable)) Tryz.func297 (by kernel_rfl) (by kernel_rfl) (by kernel_rfl) (by kernel_rfl)
 have tT:=Is.typeOf
 have cT:=Is.comparable
 have mR:=Is.iP
 have nE:=Is.Hf
 have uE:=Is.vQ
 have vE:=Is.tv
 have nW:=Is.J8
 have uW:=Is.Ab
 have mU:=Is.uU
 have hty:=run_eql_iface_types (P:=Tryz.prog) 322 343 (.agg #[.int .i64 a, .int .i64 b,bK x]) (.pointer (some y)) Tryz.underlying209 (by decide) w
 by_cases hxy:x=y
 ·subst hxy
  rw[decide_eq_true rfl]
  have heq:=run_eql_iface_ptr_same (P:=Tryz.prog) (w.alloc (.cells #[.int .i64 a, .int .i64 b,bK x] 322)) x Tryz.underlying209 Tryz.underlying343 hi hcmp hj
  go_enter Tryz.func171,Tryz.ntmps171
  go_wp2
  refine wp_loop_rounds 2 ?_
  rw[rounds_succ]
  go_wp2_with (first|(go_at_call 309;refine(AP a b x _).mono ?_;rintro e w' ⟨rfl,rfl⟩)|go_in)
  rw[rounds_succ]
  go_wp2
  go_ret
  exact⟨rfl,rfl⟩
 ·rw[decide_eq_false hxy]
  obtain⟨ca,ta,ha⟩:=hx hxy
  obtain⟨cb,tb,hb⟩:=hy hxy
  have heq:=run_eql_iface_ptr_other (P:=Tryz.prog) (w.alloc (.cells #[.int .i64 a, .int .i64 b,bK x] 322)) Tryz.underlying209 Tryz.underlying343 hi hcmp hj (by rw[hjs];decide) hxy (ca:=ca) (ta:=ta) (cb:=cb) (tb:=tb) (by rw[(MapKept.heap_alloc w _).2 _ (Array.getElem?_eq_some_iff.1 ha).1];exact ha) (by rw[(MapKept.heap_alloc w _).2 _ (Array.getElem?_eq_some_iff.1 hb).1];exact hb)
  go_enter Tryz.func171,Tryz.ntmps171
  go_wp2
  refine wp_loop_rounds 2 ?_
  rw[rounds_succ]
  go_wp2_with (first|(go_at_call 309;refine(AP a b x _).mono ?_;rintro e w' ⟨rfl,rfl⟩)|go_in)
  rw[rounds_succ]
  go_wp2
  go_ret
  exact⟨rfl,rfl⟩
section
variable [Env]
theorem KR {w:World} (hG:vr GL w):(∃ c t,w.heap[Env.n0.block]? =some (.cells c t (0,0)))∧(∃ c t,w.heap[Env.n1.block]? =some (.cells c t (0,0))):=
 ⟨((hG Env.n0.block (.box true []) (by unfold GL;simp)).2 (fun _=>⟨none,0,0⟩)).2 rfl,((hG Env.n1.block (.box true []) (by unfold GL;simp)).2 (fun _=>⟨none,0,0⟩)).2 rfl⟩
theorem zx {f:FuncId} {args:List SV} {b:Bool} (h: ∀ (θ:Th) (w:World),vr GL w→Calls Tryz.prog f (ax θ args).toArray w fun e w'=>e= .returned (.bool b)∧Go.RowKit.Below w.heap.size w w'):ab Tryz.prog GL f args [] (B b) []:=by
 intro θ w hh hg cs
 obtain⟨e,w',fr',⟨rfl,hb⟩,hc,h3,h4⟩:=h θ w hg cs
 exact⟨_,_,fr',⟨hb,_,rfl,fun _=>⟨none,0,0⟩,fun θ' hs _=>⟨rfl,⟨fun t v ht=>by simp at ht,fun t t' v v' ht=>by simp at ht⟩⟩⟩,hc,h3,h4⟩
theorem jM (b:Addr):ab Tryz.prog GL 171 [.val .nilIface, .val (bK b)] [] (B false) []:=zx fun θ w _=>(IY b w).mono fun e w' h=>⟨h.1,by rw[h.2];exact Go.RowKit.Below.refl _ _⟩
theorem tH (a b:Int) {x y:Addr} (hx:x=Env.n0∨x=Env.n1) (hy:y=Env.n0∨y=Env.n1):ab Tryz.prog GL 171 [.dZ 322 (.agg [I a,I b, .val (bK x)]), .val (bK y)] [] (B (decide (x=y))) []:=
 zx fun θ w hG=>(Ge a b x y w (fun _=>by rcases hx with rfl|rfl<;>first|exact(KR hG).1|exact(KR hG).2) (fun _=>by rcases hy with rfl|rfl<;>first|exact(KR hG).1|exact(KR hG).2)).mono fun e w' h=>⟨h.1,by rw[h.2];exact(Go.RowKit.Below.refl _ _).alloc (Nat.le_refl _) _⟩
end
end Go.Proofs.YtelidogcomffkaaGreatDoor
