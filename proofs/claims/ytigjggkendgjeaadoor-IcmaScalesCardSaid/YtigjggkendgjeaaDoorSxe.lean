/-
  SX, part 14: a region whose order is open: its first operations in whatever order, the others behind them in theirs.
-/
import Derived.Test.YtigjggkendgjeaaDoorSxa
import Derived.Orders
set_option linter.unusedVariables false
set_option linter.unusedSimpArgs false
namespace Go.Sx
open Go.RowKit

/-- What an operation of the open part is good for: the frame goes on, what was there stays, new views lie in new blocks. -/
def EStep (P : Program) (A : Nat → Prop) (θ : Th) (rx : Rx) (fn : FuncId) (T : Array Value) (w : World) (ops : Array Oper) (i : Nat) (o : Oper) (hp : List (Option Vw)) (rest : List Nat) (k : List Item) (cs : List Frame) (v : SV) (news : List Vw) : Prop :=
  ∃ r w', ∃ nw : Nat → Ad, Steps P (lone (mkFr rx fn T (.inRegion ops (i :: rest) :: k)) cs w) (lone (mkFr rx fn ((Act.mk T []).put o.dst r).tmps (.inRegion ops rest :: k)) cs w') ∧ Below w.heap.size w w' ∧
    ∀ θ', SameA A θ θ' → (∀ k, k < news.length → θ' (hp.length + k) = nw k) → r = den θ' v ∧ (∀ k x, news[k]? = some x → x.own = true ∧ VwOk θ' w.heap.size w' (nw k) x) ∧
      ∀ (k k' : Nat) (x x' : Vw), news[k]? = some x → news[k']? = some x' → k ≠ k' → ∀ a a', (nw k).base = some a → (nw k').base = some a' → a.block ≠ a'.block

section
variable {P : Program} {gl : List (Nat × Vw)} {base : Nat} {A : Nat → Prop} {θ : Th} {l : List (Option SV)} {hp : List (Option Vw)} {T : Array Value} {w : World} {rx : Rx} {fn : FuncId} {ops : Array Oper} {i : Nat} {o : Oper} {rest : List Nat} {k : List Item} {cs : List Frame}

theorem step_value_mk {r : Value} {w' : World} (ho : ops[i]? = some o) (hw : Region.wanted o (yielded ops T) = true) (hr : (execOp (Act.mk T []).eval o).run P w = .ok (.value r) w') (rest : List Nat) (k : List Item) (cs : List Frame) :
    Steps P (lone (mkFr rx fn T (.inRegion ops (i :: rest) :: k)) cs w) (lone (mkFr rx fn ((Act.mk T []).put o.dst r).tmps (.inRegion ops rest :: k)) cs w') := by
  exact .one (stepM_value ho hw hr)

theorem EStep.of_new {v : SV} {vw : Vw} (hI : PreA A P gl base θ l hp T w) (ho : ops[i]? = some o) (hw : Region.wanted o (yielded ops T) = true) (h : NewRun base l hp T w ((execOp (Act.mk T []).eval o).run P w) v vw) (hown : vw.own = true) :
    EStep P A θ rx fn T w ops i o hp rest k cs v [vw] := by
  obtain ⟨r, w', d, hr, hb, hn, hv⟩ := h
  refine ⟨r, w', fun _ => d, step_value_mk ho hw hr rest k cs, hb, fun θ' hs hnew => ?_⟩
  obtain ⟨hh, hT⟩ := hI.inv θ' hs
  obtain ⟨h1, h2⟩ := hv θ' hh hT (hnew 0 (by simp))
  refine ⟨h1, fun k x hk => ?_, fun k k' x x' hk hk' hne => ?_⟩
  · cases k with
    | zero => simp at hk; subst hk; exact ⟨hown, h2⟩
    | succ k => simp at hk
  · cases k with
    | zero => cases k' with
      | zero => exact absurd rfl hne
      | succ k' => simp at hk'
    | succ k => simp at hk

theorem EStep.of_simple {v : SV} (hI : PreA A P gl base θ l hp T w) (ho : ops[i]? = some o) (hw : Region.wanted o (yielded ops T) = true) (h : ∀ θ', HpOk θ' base hp w → TOk θ' l T → (execOp (Act.mk T []).eval o).run P w = .ok (.value (den θ' v)) w) :
    EStep P A θ rx fn T w ops i o hp rest k cs v [] := by
  have h0 := h θ (hI.inv θ (SameA.refl _ _)).1 (hI.inv θ (SameA.refl _ _)).2
  refine ⟨den θ v, w, fun _ => ⟨none, 0, 0⟩, step_value_mk ho hw h0 rest k cs, Below.refl _ _, fun θ' hs _ => ⟨?_, fun k x hk => by simp at hk, fun k k' x x' hk => by simp at hk⟩⟩
  have h1 := h θ' (hI.inv θ' hs).1 (hI.inv θ' hs).2
  rw [h0] at h1
  injection h1 with h1
  injection h1

theorem filterMap_own : ∀ {new : List (Option Vw)}, newOk new = true → ∀ (k : Nat) (x : Vw), (new.filterMap id)[k]? = some x → new[k]? = some (some x) ∧ x.own = true
  | [], _, k, x, h => by simp at h
  | none :: r, hn, k, x, h => by simp [newOk] at hn
  | some v :: r, hn, k, x, h => by
    have hv : v.own = true ∧ newOk r = true := by simpa [newOk] using hn
    simp only [List.filterMap_cons, id] at h
    cases k with
    | zero => simp at h; subst h; exact ⟨rfl, hv.1⟩
    | succ k => simp only [List.getElem?_cons_succ] at h ⊢; exact filterMap_own hv.2 k x h

theorem filterMap_len : ∀ {new : List (Option Vw)}, newOk new = true → (new.filterMap id).length = new.length
  | [], _ => rfl
  | none :: r, hn => by simp [newOk] at hn
  | some v :: r, hn => by
    have hv : v.own = true ∧ newOk r = true := by simpa [newOk] using hn
    simp [filterMap_len hv.2]

theorem EStep.of_call {qs : List Prop} {hs hs2 : List Hint} {f : FuncId} {args : List SV} {σ : List Nat} {res : SV} {new : List (Option Vw)} (hI : PreA A P gl base θ l hp T w) (ho : ops[i]? = some o) (hw : Region.wanted o (yielded ops T) = true)
    (hop : sxOp P gl l hp hs o.op = some (qs, hs2, .enter f args)) (hqs : AllP qs) (hcall : SCall P gl f (rnmL (inv σ) args) (argV σ hp) res new) (hnew : newOk new = true) (hkn : ∀ t, t ∈ σ → A t) :
    EStep P A θ rx fn T w ops i o hp rest k cs (rnm (fwd σ hp.length) res) ((new.filterMap id).map (Vw.rnm (fwd σ hp.length))) := by
  obtain ⟨hh0, hT0⟩ := hI.inv θ (SameA.refl _ _)
  obtain ⟨as, hrun, has⟩ := sxOp_after (ds := []) hI hop hqs
  have hlen : (argV σ hp).length = σ.length := by simp [argV]
  have e1 : denL (fun k => θ (back σ k)) (rnmL (inv σ) args) = as := by
    rw [denL_rnm, has θ (SameA.refl _ _)]
    congr 1
    funext t
    rw [back_inv]
  have hc := hcall (fun k => θ (back σ k)) w (argV_ok hh0) hI.gok
  rw [e1] at hc
  obtain ⟨e, w', fr', ⟨hbel, r, rfl, nw, hnw⟩, hcomes, -, hleave⟩ := hc (mkFr rx fn T (.inRegion ops (i :: rest) :: k) :: cs)
  have hfin : (mkFr rx fn T (.inRegion ops (i :: rest) :: k)).finish r = mkFr rx fn ((Act.mk T []).put o.dst r).tmps (.inRegion ops rest :: k) := by
    exact fin_mk ho
  have hst : step P (lone (mkFr rx fn T (.inRegion ops (i :: rest) :: k)) cs w) = .next (lone (Frame.enter P f as.toArray .normal) (mkFr rx fn T (.inRegion ops (i :: rest) :: k) :: cs) w) :=
    stepM_enter ho hw hrun
  have hlst := step_leave_returned (c := mkFr rx fn T (.inRegion ops (i :: rest) :: k)) (cs := cs) hleave
  rw [hfin] at hlst
  refine ⟨r, w', nw, .head hst (Steps.trans hcomes (.one hlst)), hbel, fun θ' hs hn => ?_⟩
  have hfl := filterMap_len hnew
  have hsame : Same (argV σ hp).length (fun k => θ (back σ k)) (fun k => θ' (fwd σ hp.length k)) := fun k hk => by
    simp only [hlen] at hk
    simp only [back, fwd, hk, if_true]
    refine hs _ (hkn _ ?_)
    rw [List.getD_eq_getElem?_getD, List.getElem?_eq_getElem hk]
    exact List.getElem_mem hk
  obtain ⟨hr, hh2⟩ := hnw _ hsame (fun k hk => by
    simp only [hlen, fwd, show ¬ σ.length + k < σ.length by omega, if_false]
    rw [show hp.length + (σ.length + k - σ.length) = hp.length + k by omega]
    exact hn k (by simp [hfl]; exact hk))
  have hf : ∀ k, fwd σ hp.length (σ.length + k) = hp.length + k := fun k => by unfold fwd; rw [if_neg (by omega)]; omega
  have key : ∀ (k : Nat) (x : Vw), ((new.filterMap id).map (Vw.rnm (fwd σ hp.length)))[k]? = some x → ∃ u, (argV σ hp ++ new)[σ.length + k]? = some (some u) ∧ x = u.rnm (fwd σ hp.length) ∧ u.own = true ∧ θ' (fwd σ hp.length (σ.length + k)) = nw k := fun k x hk => by
    rw [List.getElem?_map] at hk
    cases hq : (new.filterMap id)[k]? with
    | none => simp [hq] at hk
    | some u =>
      simp [hq] at hk
      obtain ⟨h1, h2⟩ := filterMap_own hnew k u hq
      refine ⟨u, ?_, hk.symm, h2, ?_⟩
      · rw [List.getElem?_append_right (by omega), hlen, show σ.length + k - σ.length = k by omega]; exact h1
      · rw [hf]; exact hn k (by simp [hfl]; exact (List.getElem?_eq_some_iff.1 h1).1)
  refine ⟨by rw [hr, den_rnm], fun k x hk => ?_, fun k k' x x' hk hk' hne a a' ha ha' => ?_⟩
  · obtain ⟨u, h1, rfl, h3, h4⟩ := key k x hk
    have h5 := hh2.vw _ _ h1
    simp only [h4] at h5
    exact ⟨by rw [rnm_own]; exact h3, h5.rnm (Nat.le_refl _)⟩
  · obtain ⟨u, h1, rfl, h3, h4⟩ := key k x hk
    obtain ⟨u', h1', rfl, h3', h4'⟩ := key k' x' hk'
    exact hh2.ne _ _ u u' h1 h1' (by omega) h3 (.inl h3') a a' (by simp only [h4]; exact ha) (by simp only [h4']; exact ha')

theorem sxE_step {hs hs' : List Hint} {ps : List Prop} {v : SV} {news : List Vw} (hI : PreA A P gl base θ l hp T w) (ho : ops[i]? = some o) (hw : Region.wanted o (yielded ops T) = true)
    (h : sxE P gl l hp hs o.op = some (ps, hs', v, news)) (hps : AllP ps) :
    EStep P A θ rx fn T w ops i o hp rest k cs v news := by
  have hV : (match sxV P gl l hp hs o.op with
      | some (ps, hs', v) => some (ps, hs', v, ([] : List Vw))
      | none => none) = some (ps, hs', v, news) → EStep P A θ rx fn T w ops i o hp rest k cs v news := by
    intro h
    split at h
    · rename_i ps' hs'' v' hx
      simp only [Option.some.injEq, Prod.mk.injEq] at h
      obtain ⟨rfl, -, rfl, rfl⟩ := h
      exact EStep.of_simple hI ho hw (fun θ' hh hT => sxV_run hx hps hI.gok hh hT)
    · cases h
  have hT0 := (hI.inv θ (SameA.refl _ _)).2
  cases hop : o.op <;> rw [hop] at h hV <;> simp only [sxE] at h <;> try exact hV h
  case alloc e' =>
    split at h
    · rename_i i hi
      split at h
      · rename_i z hz; cases h; exact EStep.of_new hI ho hw (alloc_new hop hi hz) rfl
      · cases h
    · cases h
  case box e' x =>
    split at h
    · rename_i v hv
      split at h
      · rename_i cs hc; cases h; exact EStep.of_new hI ho hw (box_new hop hv hc) rfl
      · cases h
    · cases h
  case buildSlice t n parts =>
    split at h
    · rename_i el vs hu hv
      split at h
      · rename_i i rows hi hr
        split at h
        · rename_i z f hs'' hz
          split at h
          · rename_i hq
            simp only [Bool.and_eq_true, beq_iff_eq, decide_eq_true_eq] at hq
            obtain ⟨⟨⟨⟨h1, h2⟩, h3⟩, h4⟩, h5⟩ := hq
            cases h
            exact EStep.of_new hI ho hw (lit_new hT0 hop hu hi hz h1 rfl h2 h3 hv hr h4 h5 hps.1) rfl
          · cases h
        · cases h
      · cases h
    · cases h
  case makeSlice t x y =>
    split at h
    · rename_i el k n k' n' hu hx hy
      split at h
      · rename_i i hi
        split at h
        · rename_i z hz
          split at h
          · rename_i hq
            simp only [Bool.and_eq_true, beq_iff_eq, decide_eq_true_eq] at hq
            obtain ⟨⟨h1, h2⟩, h3⟩ := hq
            cases h
            obtain ⟨rfl, h5, h6, h7, -⟩ := hps
            exact EStep.of_new hI ho hw (make_new hT0 hop hu hi hz h1 rfl h2 hx hy h3 h5 h6 h7) rfl
          · cases h
        · cases h
      · cases h
    · cases h
  case call c =>
    obtain ⟨callee, args, ats⟩ := c
    cases callee with
    | invoke r m => exact hV h
    | builtin b => exact hV h
    | value f =>
      simp only at h
      split at h
      · exact hV h
      · rename_i qs σ res new hs'' g as hx
        split at h
        · rename_i hq
          simp only [Bool.and_eq_true] at hq
          simp only [Option.some.injEq, Prod.mk.injEq] at h
          obtain ⟨rfl, -, rfl, rfl⟩ := h
          obtain ⟨h1, h2⟩ := AllP_append hps
          refine EStep.of_call hI ho hw (by rw [hop]; exact hx) h1 h2.1 hq.1 (fun t ht => ?_)
          have h3 := List.all_eq_true.1 hq.2 t ht
          simp only [Bool.and_eq_true, decide_eq_true_eq] at h3
          obtain ⟨-, h4⟩ := h3
          cases hg : getV hp t with
          | none => simp [hg] at h4
          | some u => exact hI.kn t u (getV_some hg)
        · cases h
      · cases h

end

end Go.Sx
