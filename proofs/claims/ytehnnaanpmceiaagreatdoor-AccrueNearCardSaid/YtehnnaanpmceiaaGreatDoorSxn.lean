/-
  SX: an entry of a map that is asked for to be written; slice literals of several kinds.
-/
import Derived.Test.YtehnnaanpmceiaaGreatDoorSxi
set_option linter.unusedVariables false
set_option linter.unusedSimpArgs false
namespace Go.Sx
open Go.RowKit

/-- The rows of a slice literal. -/
def lrow (rows : List (List SV)) (i : Nat) : List SV := rows.getD i []

abbrev U64 (x : Int) : Prop := InR .u64 x
abbrev Wu (x : Int) : Int := IntKind.wrap .u64 x
abbrev Ir (x : Int) : Prop := InR .i64 x

theorem bcase (b : Bool) : b = true ∨ b = false := by cases b <;> simp

theorem Ok.mapEntry {X : Cx} {P : Program} {fr : SFr} {frs : List SFr} {hp : List (Option Vw)} {ops : Array Oper} {i : Nat} {rest : List Nat} {todo : List Item} {o : Oper} {t kt et : TypeId} {m key : Operand} {tg : Nat} {k v : IntKind} {f : Int → Int} {a : Int} {st : List (Int × Int)} {c : SC} {c' : Int → SC}
    (hP : X.P = P) (hc : c = ⟨fr :: frs, hp⟩) (htd : fr.todo = .inRegion ops (i :: rest) :: todo) (ho : ops[i]? = some o) (hgd : o.guard = none) (hop : o.op = .mapEntry t m key) (hm : ev fr.tmps m = some (.mp tg)) (hk : ev fr.tmps key = some (.val (.int k a)))
    (ht : getV hp tg = some (.map true k v f st)) (hty : P.underlying t = some (.map kt et) ∧ P.underlying kt = some (.int k) ∧ zeroK P et = some v)
    (hc' : (fun s => c' s) = fun s => ⟨{ fr with tmps := setT fr.tmps o.dst (.tup [.val (.int v (f a)), .val (.int .i64 s)]), todo := .inRegion ops rest :: todo } :: frs, hp.set tg (some (.map true k v f ((s, a) :: st)))⟩)
    (hok : ∀ s, Ok X (c' s)) : Ok X c := by
  subst hc hP
  intro θ m0 ms w hh
  obtain ⟨hu, hkt, hz⟩ := hty
  obtain ⟨T, rfl, hpre, hrest⟩ := hh.pre
  obtain ⟨hh0, hT0⟩ := hpre.inv θ (Same.refl _ _)
  have htv := getV_some ht
  obtain ⟨b, hb, hbb, es, c0, he, hin⟩ := hh0.vw tg _ htv
  obtain ⟨s, es', c1, hrun, hin'⟩ := mapEntry_run (P := X.P) (w := w) (a := a) hu hkt (zeroK_some hz) he hin
  have hlen : hp.length ≤ (hp.set tg (some (Vw.map true k v f (((s : Int), a) :: st)))).length := by simp
  have hexec : ∀ θ', θ' tg = θ tg → TOk θ' fr.tmps T → (execOp (Act.mk T []).eval o).run X.P w = .ok (.value (.tuple #[.int v (f a), .int .i64 (s : Int)])) { w with heap := w.heap.setIfInBounds b (.map es' c1) } := fun θ' hs hT => by
    simp only [execOp, hop, Sem.run_bind, ev_den hT hm, ev_den hT hk, den, hs, hb, Option.map_some, hrun, Result.andThen_ok, Sem.run_pure]
  have hw : Region.wanted o (yielded ops T) = true := by unfold Region.wanted; rw [hgd]
  have hstep := stepM_value (P := X.P) (rx := fr.rx) (fn := fr.fn) (k := todo) (cs := ms ++ X.cs) (rest := rest) ho hw (hexec θ rfl hT0)
  have hbel : Below X.base w { w with heap := w.heap.setIfInBounds b (.map es' c1) } := below_setBlock (hbb rfl) _
  have hk1 := hok (s : Int)
  rw [show c' (s : Int) = _ from congrFun hc' (s : Int)] at hk1
  rw [htd]
  refine Done.steps (.one hstep) (hk1 θ _ ms _ ⟨fun θ' hs => ?_, hh.old, Nat.le_trans hh.len hlen, hh.bel.trans hbel, Nat.le_trans hh.sz hbel.size, hh.gok.below hh.gb hbel, hh.gb⟩)
  simp only [List.length_set] at hs
  obtain ⟨g1, g2⟩ := hpre.inv θ' hs
  have htl : tg < hp.length := (List.getElem?_eq_some_iff.1 htv).1
  have hsame : θ' tg = θ tg := hs tg htl
  refine ⟨?_, .cons ⟨_, rfl, g2.set (v := .tup [.val (.int v (f a)), .val (.int .i64 (s : Int))]) rfl⟩ (hrest θ' hs)⟩
  rw [← hsame] at hb
  exact g1.write (v' := .map true k v f _) htv rfl rfl hb rfl (fun k hk => (MapKept.heap_set he).2 k hk) ⟨b, hb, hbb, es', c1, (MapKept.heap_set he).1, hin'⟩

theorem SCall.p {P : Program} {gl : List (Nat × Vw)} {f : FuncId} {args : List SV} {hp0 new : List (Option Vw)} {res : SV} {ps : List Prop} (n : Nat) (hs : List Hint) (τ : List Nat) (N : Nat) (hps : AllP ps) (hh : ScHp hp0.length hp0 := by exact trivial)
    (h : sxFin P gl f τ n hs (entry P f args hp0) = some (ps, N, rnm (finσ hp0.length τ N) res, new.map fun x => x.map (Vw.rnm (finσ hp0.length τ N))) := by kernel_rfl) (hc : (chkT τ N && scL hp0.length args && isRo hp0) = true := by rfl) : SCall P gl f args hp0 res new :=
  SCall.path n hs τ N h hc hh hps

theorem Ok.c {X : Cx} {P : Program} {gl : List (Nat × Vw)} {f : FuncId} {hp0 new : List (Option Vw)} {res : SV} {c c' : SC} {ps : List Prop} (hX : IsFin X P gl f hp0 res new) (n : Nat) (hs : List Hint) (mf : List (List Bool)) (τ : List Mv) (hps : AllP ps) (k : Ok X c')
    (hsc : ScHp τ.length c'.hp := by repeat (first | exact trivial | refine ⟨by first | exact rfl | exact fun _ => rfl | exact trivial, ?_⟩))
    (h : (match sxRun P gl n hs c with | some (ps, c1) => some (ps, maskF mf c1.frs, oldsR c1.hp τ c'.hp, lenF mf c1.frs) | none => none) = some (ps, pullF τ c'.frs, oldsL τ τ c'.hp, true) := by kernel_rfl)
    (h3 : (nilsOk τ c'.hp && apart τ c'.hp && stay hp0.length τ && c'.frs.all (fun fr => scT τ.length fr.tmps) && decide (τ.length = c'.hp.length) && decide (hp0.length ≤ τ.length)) = true := by kernel_rfl) : Ok X c :=
  Ok.cutM n hs mf τ hp0.length hX.P hX.gl hX.n0 h h3 hsc hps k

theorem Ok.f {X : Cx} {P : Program} {gl : List (Nat × Vw)} {f : FuncId} {hp0 new : List (Option Vw)} {res : SV} {ps : List Prop} {c : SC} (hX : IsFin X P gl f hp0 res new) (n : Nat) (hs : List Hint) (τ : List Nat) (N : Nat) (hps : AllP ps)
    (h : sxFin P gl f τ n hs c = some (ps, N, rnm (finσ hp0.length τ N) res, new.map fun x => x.map (Vw.rnm (finσ hp0.length τ N))) := by kernel_rfl) (hc : chkT τ N = true := by rfl) : Ok X c := Ok.fin n hs τ N hX h hc hps

end Go.Sx
