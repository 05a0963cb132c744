/-
  From a contract of SX to the row that is asked: the laid variables, the argument opened, the state behind the call.
-/
import Derived.Test.YtigjggkendgjeaaDoorLow
import Derived.Test.YtigjggkendgjeaaDoorRows
import Derived.WalkKit
import Derived.ProofKit
import Derived.OpenShut
import Derived.Deep.DeepHandedRow
import Derived.Deep.Fields
import Derived.Lib.LaidTab
import Derived.Carry
import Derived.LaidHandle
import Derived.LaidLaws
import Derived.ChangeSlices
import Derived.ChangeSame
import Derived.RowKit
set_option linter.unusedVariables false
set_option linter.unusedSimpArgs false
set_option maxRecDepth 100000
namespace Go.Proofs.YtigjggkendgjeaaDoor
open Go Go.Sx Go.Deep Go.ChangeShapes Go.WideShapes Go.ChangeAt Go.RowKit

theorem laidOut : laidOutB Tryd.prog = true := by kernel_rfl
theorem own : ownKnob Tryd.prog.godebug = none := by kernel_rfl
theorem gLen : Tryd.prog.globalNamed "demurrage/civil.lengths" = some 1 := by kernel_rfl
theorem gLenType : (Tryd.prog.globals[1]?).map (·.type) = some 140 := by kernel_rfl
theorem cLen : Tryd.prog.cellsOf 140 = 13 := by kernel_rfl
theorem cInt : Tryd.prog.cellsOf 3 = 1 := by kernel_rfl
theorem gErr : Tryd.prog.globalNamed "errors.errorType" = some 0 := by kernel_rfl
theorem rtNo : (Tryd.prog.cutTypes.find? (·.1 == "internal/reflectlite.rtype")).map (·.2) = some 117 := by kernel_rfl
theorem nTypes : Tryd.prog.types.size = 279 - 100 := by kernel_rfl
theorem oneRow : ((List.range (279 - 100)).filter fun t => Tryd.prog.rowNamed t [101, 114, 114, 111, 114]) = [53] := by kernel_rfl

def laidL : List (String × DataW Unit) := [("demurrage/civil.lengths", Rows.laid_demurrage_civil_lengths), ("errors.errorType", Rows.laid_errors_errorType)]

/-- What the row's list gives: the package variables that are read. -/
theorem gok {W : World} (h : laidMetH Tryd.prog laidL W) : GOk GL W := by
  have h' : laidMet Tryd.prog [("demurrage/civil.lengths", Rows.laid_demurrage_civil_lengths)] W ∧ handlesMet Tryd.prog [("errors.errorType", Rows.laid_errors_errorType)] W := h
  have hT : Lib.TabIs Tryd.prog W "demurrage/civil.lengths" .i64 [0, 31, 28, 31, 30, 31, 30, 31, 31, 30, 31, 30, 31] :=
    Lib.tabIs_of_head (rest := []) gLen gLenType Tryd.underlying140 Tryd.underlying3 cInt cLen h'.1
  have hc : ∀ i, i < 13 → W.cell? ⟨1, i, none⟩ = some (.int .i64 (lens i)) := fun i hi => hT.cell gLen i hi
  have hE : W.cell? ⟨0, 0, none⟩ = some (.iface 117 (.agg #[.pointer (some ⟨4, 53, none⟩)])) := by
    obtain ⟨name, u, ty, e1, e2, e3, e4, e5⟩ := h'.2 _ (List.mem_singleton.2 rfl)
    have en : name = [101, 114, 114, 111, 114] := (Option.some.inj e1).symm
    subst en
    obtain rfl := Option.some.inj (rtNo.symm.trans e2)
    have hm : ty ∈ (List.range (279 - 100)).filter fun t => Tryd.prog.rowNamed t [101, 114, 114, 111, 114] := List.mem_filter.2 ⟨List.mem_range.2 (by rw [← nTypes]; exact e3), e4⟩
    rw [oneRow] at hm
    obtain rfl := List.mem_singleton.1 hm
    have hh : typeHandle Tryd.prog 53 = .pointer (some ⟨4, 53, none⟩) := by kernel_rfl
    rw [hh] at e5
    simpa using World.var?_cell gErr e5 0
  have hlt : ∀ {b o : Nat} {v : Value}, W.cell? ⟨b, o, none⟩ = some v → b < W.heap.size := fun h => World.block_lt_of_cell? W _ h
  intro g v hm
  unfold GL at hm
  simp only [List.mem_cons, List.not_mem_nil, or_false, Prod.mk.injEq] at hm
  rcases hm with ⟨rfl, rfl⟩ | ⟨rfl, rfl⟩
  · refine ⟨hlt (hc 0 (by omega)), fun θ i hi => ⟨rfl, fun k v hk => ?_⟩⟩
    cases k with
    | zero =>
      simp at hk; subst hk
      have := hc i hi
      simpa [at_, den] using this
    | succ k => simp at hk
  · refine ⟨hlt hE, fun θ k v hk => ?_⟩
    cases k with
    | zero =>
      simp at hk; subst hk
      simpa [at_, den] using hE
    | succ k => simp at hk

section
variable {H : Type} {enc : TypeId × Value → H} {P : Program} {w : World} {base : Nat} {spare : Nat → Bool} {held : Bool}

/-- A structure of one-celled fields, opened. -/
theorem open_struct {b0 : Nat} {t : TypeId} {fs : Array Field} {ts : List TypeId} {v : Value} {d : DataW H} {p : List MemPlace} (hs : P.underlying t = some (.struct fs)) (hone : oneCellFields P fs = true) (hC : P.cellsOf t = fs.size)
    (hts : P.cellTypes P.depth t = some ts) (hl : ts.length = fs.size) (hv : Value.okWide P w .any b0 t v) (h : DataW.Trod enc P w base spare held t v d p) :
    ∃ cs : List Value, v = .agg cs.toArray ∧ cs.length = fs.size ∧ (∀ (i : Nat) (x : Value) (u : TypeId), cs[i]? = some x → ts[i]? = some u → Cell.okWide P w .any b0 u x) ∧
      (∀ (i : Nat) (f : Field) (x : Value), fs[i]? = some f → cs[i]? = some x → ∃ n y, DataW.trod enc P w base spare held n f.type [x] = some y) := by
  have hv' := hv
  unfold Value.okWide at hv'
  rw [hs] at hv'
  obtain ⟨cs, rfl, hsz, ts', h1, ⟨n, h2⟩, h3⟩ := hv'
  rw [hts] at h1; cases h1
  obtain ⟨fuel, hf⟩ := h
  obtain ⟨xs, m, rfl, -, hlen, hxs, hfd⟩ := DataW.trod_struct hs hf
  refine ⟨cs.toList, by simp, by simp [hsz, hC], fun i x u hx hu' => ?_, fun i f x hfi hx => ?_⟩
  · have hx' : cs[i]? = some x := by simpa using hx
    obtain ⟨u', hu, hk⟩ := h3 i x hx'
    have hi : i < ts.length := by rw [hl, ← hC, ← hsz]; exact (Array.getElem?_eq_some_iff.1 hx').1
    rw [Nat.mod_eq_of_lt hi, hu'] at hu
    cases hu
    exact hk
  · obtain ⟨o1, o2⟩ := hone_of hone i f hfi
    have h4 := hfd i f hfi
    rw [o1, o2] at h4
    have hx' : cs[i]? = some x := by simpa using hx
    have hi : i < xs.length := by rw [hxs]; exact (Array.getElem?_eq_some_iff.1 hfi).1
    have hcells : (Value.agg cs).cells.toList = cs.toList := rfl
    rw [hcells] at h4
    have h5 : (cs.toList.drop i).take 1 = [x] := by
      have hi2 : i < cs.size := (Array.getElem?_eq_some_iff.1 hx').1
      have : cs[i] = x := by rw [Array.getElem?_eq_getElem hi2] at hx'; exact Option.some.inj hx'
      rw [List.drop_eq_getElem_cons (by simpa using hi2)]
      simp [this]
    rw [h5, List.getElem?_eq_getElem hi] at h4
    exact ⟨m, _, h4⟩

theorem cell_int {b0 : Nat} {u : TypeId} {k : IntKind} {x : Value} (hu : P.underlying u = some (.int k)) (h : Cell.okWide P w .any b0 u x) : ∃ n, x = .int k n ∧ InR k n := by
  unfold Cell.okWide at h
  rw [hu] at h
  simp only at h
  unfold Cell.ok at h
  rw [hu] at h
  cases x <;> simp only at h <;> first | exact h.elim | skip
  rename_i k' n
  obtain ⟨rfl, h1, h2⟩ := h
  refine ⟨n, rfl, ?_⟩
  cases k' <;> simp [IntKind.min, IntKind.max, IntKind.signed, IntKind.bits] at h1 h2 <;> simp [InR] <;> omega

theorem cell_bool {b0 : Nat} {u : TypeId} {x : Value} (hu : P.underlying u = some .bool) (h : Cell.okWide P w .any b0 u x) : ∃ b, x = .bool b := by
  unfold Cell.okWide at h
  rw [hu] at h
  simp only at h
  unfold Cell.ok at h
  rw [hu] at h
  cases x <;> simp only at h <;> first | exact h.elim | skip
  exact ⟨_, rfl⟩

/-- A slice of ints, as a view. -/
theorem cell_ints {b0 B : Nat} {u e : TypeId} {x : Value} {n : Nat} {y : DataW H × List MemPlace} (hu : P.underlying u = some (.slice e)) (he : P.underlying e = some (.int .i64)) (hc : P.cellsOf e = 1) (h : Cell.okWide P w .any b0 u x)
    (ht : DataW.trod enc P w base spare held n u [x] = some y) :
    ∃ (m : Nat) (g : Nat → Int) (d : Ad), x = den (fun _ => d) (.sl 0 m) ∧ HpOk (fun _ => d) B [some (.row false e m 1 (fun i => [I (g i)]))] w := by
  have hok : ∀ {d : Ad} {m : Nat} {g : Nat → Int}, d.sz = 1 → m ≤ d.cap → (m = 0 ∨ ∃ a, d.base = some a) → (∀ a, d.base = some a → a.spot = none) → (∀ a, d.base = some a → ∀ i, i < m → w.cell? (a.add i) = some (.int .i64 (g i))) →
      HpOk (fun _ => d) B [some (.row false e m 1 (fun i => [I (g i)]))] w := by
    intro d m g h1 h2 h3 h4 h5
    refine ⟨fun t v hv => ?_, fun t t' v v' hv hv' hne ho => ?_⟩
    · cases t with
      | zero =>
        simp at hv; subst hv
        refine ⟨h1, h2, ⟨h3, h4⟩, fun i hi => ⟨rfl, rfl⟩, fun a ha i hi k v hk => ?_, fun h => by cases h⟩
        cases k with
        | zero =>
          simp at hk; subst hk
          have := h5 a ha i hi
          have hsp := h4 a ha
          obtain ⟨b, o, s⟩ := a
          simp only at hsp
          subst hsp
          by_cases hi0 : i = 0 <;> simpa [at_, Addr.add, den, hi0] using this
        | succ k => simp at hk
      | succ t => simp at hv
    · cases t with
      | zero => simp at hv; subst hv; cases ho
      | succ t => simp at hv
  rcases open_ints hu he hc ht with ⟨h1, -⟩ | ⟨a, len, cap, zs, h1, -, h3, -, h5, -, h7, -⟩
  · cases h1
    exact ⟨0, fun _ => 0, ⟨none, 0, 1⟩, rfl, hok rfl (Nat.le_refl _) (.inl rfl) (fun a ha => by cases ha) (fun a ha => by cases ha)⟩
  · cases h1
    have hsp : a.spot = none := by
      unfold Cell.okWide at h
      rw [hu] at h
      simp only at h
      unfold Cell.ok at h
      rw [hu] at h
      exact h.2.2.2.1
    have hlen : len ≤ zs.length := by rw [h5]; split <;> omega
    refine ⟨len, fun i => zs.getD i 0, ⟨some a, cap, 1⟩, rfl, hok rfl h3 (.inr ⟨a, rfl⟩) (fun b hb => by cases hb; exact hsp) (fun b hb i hi => ?_)⟩
    cases hb
    exact h7 i (by omega)

/-- The state behind a call that leaves alone what was there. -/
theorem post_below {f : Func} {s : ChangeSpec} {apart fresh handsOn again : Bool} {W W' : World} {args : Array Value} {v : Value} {ds gs : List (DataW H)} {before pa pv : List MemPlace}
    (hW : DataW.Whole enc P f.params.toList s.vars apart W args.toList ds gs before)
    (hres : ∀ (b : Nat) (sp : Nat → Bool) (hd : Bool), DataW.TrodAll enc P W' b sp hd f.resultTypes.toList (v.resultList f.resultTypes.size) (s.fn H (ds ++ gs)).results [])
    (hargs : ∀ sp : Nat → Bool, (∀ p ∈ before, sp p.block = true) → DataW.TrodAll enc P W' 0 sp true f.params.toList args.toList (s.fn H (ds ++ gs)).args pa)
    (hvars : ∀ sp : Nat → Bool, (∀ p ∈ before, sp p.block = true) → DataW.TrodVars enc P W' sp s.vars (s.fn H (ds ++ gs)).vars pv)
    (hps : before = pa ++ pv) (hk : W.keptBut W' (· ∈ before)) (hfz : ∀ a : Addr, a.block < W.heap.size → W'.frozen? a = W.frozen? a)
    (hok : ∀ (j : Nat) (t : TypeId) (r : Value), f.resultTypes[j]? = some t → (v.resultList f.resultTypes.size)[j]? = some r → Value.okWide P W' .any 0 t r) :
    s.post enc P f apart fresh handsOn again W args v W' := by
  have hold : ∀ p ∈ before, (fun b => decide (b < W.heap.size)) p.block = true := fun p hp => by simpa using hW.lt p hp
  have hlt : ∀ p ∈ before, p.block < W.heap.size := fun p hp => hW.lt p hp
  refine ⟨ds, gs, before, [], pa, pv, hW, hres _ _ _, hargs _ hold, hvars _ hold, World.keptBut_mono (fun p hp => ⟨hp, ?_⟩) hk, fun _ => ?_⟩
  · rw [hps, List.mem_append] at hp
    exact Or.inr hp
  · obtain ⟨_, _, _, _, _, hz, hn⟩ := hW
    refine ⟨hok, _, _, ([] ++ pa) ++ pv, ⟨[] ++ pa, pv, trodAll_append (hargs _ (fun _ _ => rfl)) (hres _ _ _), hvars _ (fun _ _ => rfl), rfl, ?_, ?_⟩, ?_⟩
    · intro b off hp
      have hp' : MemPlace.cell b off ∈ before := by rw [hps]; simpa using hp
      rw [hfz _ (hlt _ hp')]
      exact hz b off hp'
    · intro ha
      have := hn ha
      rw [hps] at this
      simpa using this
    · intro p hp _
      rw [hps]
      simpa using hp
end

section
variable {H : Type} {enc : TypeId × Value → H}

/-- A law of one argument that answers true and leaves alone what was there. -/
theorem law_contract {fid : FuncId} {f : Func} {t b : TypeId} {s : ChangeSpec} (hp : f.params = #[t]) (hr : f.resultTypes = #[b]) (hb : Tryd.prog.underlying b = some .bool) (hvars : s.vars = [])
    (hfn : ∀ (d : DataW H), s.fn H [d] = { results := [.lit (.bool true)], args := [d] }) (hread : Tryd.prog.readableRec t = true) (hrow : t < Tryd.prog.types.size)
    (walk : ∀ (W : World) (base : Nat) (v : Value) (d : DataW H) (p : List MemPlace), GOk GL W → Value.okWide Tryd.prog W .any base t v → DataW.Trod enc Tryd.prog W 0 (fun _ => true) true t v d p →
      Calls Tryd.prog fid #[v] W fun e W' => Below W.heap.size W W' ∧ e = .returned (.bool true))
    (W : World) (base : Nat) (args : Array Value) (ds gs : List (DataW H)) (before : List MemPlace)
    (hval : ∀ (j : Nat) t v, f.params[j]? = some t → args[j]? = some v → Value.okWide Tryd.prog W .any base t v)
    (hW : DataW.Whole enc Tryd.prog f.params.toList s.vars false W args.toList ds gs before) (hL : laidMetH Tryd.prog laidL W) :
    Calls Tryd.prog fid args W fun e W' => ∃ v, e = .returned v ∧ s.post enc Tryd.prog f false true false false W args v W' := by
  have hW' := hW
  obtain ⟨p, q, hA0, hV, rfl, hfz, hnd⟩ := hW
  have hA : DataW.TrodAll enc Tryd.prog W 0 (fun _ => true) true f.params.toList args.toList ds p := hA0
  rw [hp] at hA hval
  obtain ⟨v0, d0, rfl, rfl, h0⟩ := trodAll_one hA
  rw [hvars] at hV
  obtain ⟨rfl, rfl⟩ := trodVars_none hV
  clear hA0
  simp only [List.append_nil] at hW'
  refine (walk W base v0 d0 p (gok hL) (hval 0 t v0 rfl rfl) h0).mono fun e W' ⟨hbel, he⟩ => ?_
  subst he
  have hlt : ∀ x ∈ p, x.block < W.heap.size := fun x hx => by simpa using hW'.lt x hx
  have hfn' : s.fn H ([d0] ++ []) = { results := [.lit (.bool true)], args := [d0] } := hfn d0
  refine ⟨_, rfl, post_below (pa := p) (pv := []) hW' (fun bb sp hd => ?_) (fun sp hsp => ?_) (fun _ _ => ?_) (by simp) ?_ ?_ (ok_one hr rfl (okWide_bool_mk hb _))⟩
  · rw [hfn', hr]
    exact trodAll_mk1 (shut_bool hb _)
  · rw [hfn', hp]
    exact trodAll_mk1 (Go.WideElems.Trod_stays laidOut hread hrow h0 (fun x hx => hbel.same (hlt x hx)) hsp)
  · rw [hfn', hvars]
    rfl
  · exact hbel.frame _
  · exact fun a ha => hbel.frozen ha
end

theorem len4 {α : Type} {l : List α} (h : l.length = 4) : ∃ a b c d, l = [a, b, c, d] := by
  match l, h with
  | [a, b, c, d], _ => exact ⟨a, b, c, d, rfl⟩
theorem len5 {α : Type} {l : List α} (h : l.length = 5) : ∃ a b c d e, l = [a, b, c, d, e] := by
  match l, h with
  | [a, b, c, d, e], _ => exact ⟨a, b, c, d, e, rfl⟩
theorem len6 {α : Type} {l : List α} (h : l.length = 6) : ∃ a b c d e f, l = [a, b, c, d, e, f] := by
  match l, h with
  | [a, b, c, d, e, f], _ => exact ⟨a, b, c, d, e, f, rfl⟩

theorem scall_true {f : FuncId} {args : List SV} {hp : List (Option Vw)} {θ : Th} {W : World} (h : SCall Tryd.prog GL f args hp (B true) []) (hH : HpOk θ W.heap.size hp W) (hG : GOk GL W) :
    Calls Tryd.prog f (denL θ args).toArray W fun e W' => Below W.heap.size W W' ∧ e = .returned (.bool true) :=
  (h θ W hH hG).mono fun e W' ⟨hb, r, he, nw, hr⟩ => ⟨hb, by rw [he, (hr θ (fun _ _ => rfl) (fun k hk => absurd hk (Nat.not_lt_zero k))).1]; rfl⟩

/-- A world for the witness: the settled one, the two variables laid. -/
noncomputable def laidWorld (os : Os) : World :=
  let w0 := World.holding Tryd.prog os ⟨#[], #[], []⟩
  { w0 with heap := (w0.heap.modify 1 fun
      | .cells _ t frozen => .cells #[.int .i64 0, .int .i64 31, .int .i64 28, .int .i64 31, .int .i64 30, .int .i64 31, .int .i64 30, .int .i64 31, .int .i64 31, .int .i64 30, .int .i64 31, .int .i64 30, .int .i64 31] t frozen
      | o => o).modify 0 fun
      | .cells _ t frozen => .cells #[.iface 117 (.agg #[.pointer (some ⟨4, 53, none⟩)])] t frozen
      | o => o }

end Go.Proofs.YtigjggkendgjeaaDoor
