/-
  SX, part 14: a region whose order is open: its first operations in whatever order, the others behind them in theirs.
-/
import Derived.Test.YtehnnaanpmceiaaGreatDoorSxa
import Derived.Orders
set_option linter.unusedVariables false
set_option linter.unusedSimpArgs false
namespace Go.Sx
open Go.RowKit

/-- What an operation of the open part is good for: the frame goes on, what was there stays, new views lie in new blocks. -/
def EStep0 (P : Program) (A : Nat → Prop) (θ : Th) (rx : Rx) (fn : FuncId) (T : Array Value) (w : World) (ops : Array Oper) (i : Nat) (o : Oper) (hp : List (Option Vw)) (rest : List Nat) (k : List Item) (cs : List Frame) (v : SV) (news : List Vw) : Prop :=
  ∃ r w', ∃ nw : Nat → Ad, Steps P (lone (mkFr rx fn T (.inRegion ops (i :: rest) :: k)) cs w) (lone (mkFr rx fn ((Act.mk T []).put o.dst r).tmps (.inRegion ops rest :: k)) cs w') ∧ Below w.heap.size w w' ∧
    ∀ θ', SameA A θ θ' → (∀ k, k < news.length → θ' (hp.length + k) = nw k) → r = den θ' v ∧ (∀ k x, news[k]? = some x → x.own = true ∧ VwOk θ' w.heap.size w' (nw k) x) ∧
      ∀ (k k' : Nat) (x x' : Vw), news[k]? = some x → news[k']? = some x' → k ≠ k' → ∀ a a', (nw k).base = some a → (nw k').base = some a' → a.block ≠ a'.block

section
variable {P : Program} {gl : List (Nat × Vw)} {base : Nat} {A : Nat → Prop} {θ : Th} {l : List (Option SV)} {hp : List (Option Vw)} {T : Array Value} {w : World} {rx : Rx} {fn : FuncId} {ops : Array Oper} {i : Nat} {o : Oper} {rest : List Nat} {k : List Item} {cs : List Frame}

theorem step_value_mk {r : Value} {w' : World} (ho : ops[i]? = some o) (hw : Region.wanted o (yielded ops T) = true) (hr : (execOp (Act.mk T []).eval o).run P w = .ok (.value r) w') (rest : List Nat) (k : List Item) (cs : List Frame) :
    Steps P (lone (mkFr rx fn T (.inRegion ops (i :: rest) :: k)) cs w) (lone (mkFr rx fn ((Act.mk T []).put o.dst r).tmps (.inRegion ops rest :: k)) cs w') := by
  exact .one (stepM_value ho hw hr)

theorem EStep0.of_new {v : SV} {vw : Vw} (hI : PreA A P gl base θ l hp T w) (ho : ops[i]? = some o) (hw : Region.wanted o (yielded ops T) = true) (h : NewRun base l hp T w ((execOp (Act.mk T []).eval o).run P w) v vw) (hown : vw.own = true) :
    EStep0 P A θ rx fn T w ops i o hp rest k cs v [vw] := by
  obtain ⟨r, w', d, hr, hb, hn, hv⟩ := h
  refine ⟨r, w', fun _ => d, step_value_mk ho hw hr rest k cs, hb, fun θ' hs hnew => ?_⟩
  obtain ⟨hh, hT⟩ := hI.inv θ' hs
  obtain ⟨h1, h2⟩ := hv θ' hh hT (hnew 0 (by simp))
  refine ⟨h1, fun k x hk => ?_, fun k k' x x' hk hk' hne => ?_⟩
  · cases k with
    | zero => simp at hk; subst hk; exact ⟨hown, h2⟩
    | succ k => simp at hk
  · cases k with
    | zero => cases k' with
      | zero => exact absurd rfl hne
      | succ k' => simp at hk'
    | succ k => simp at hk

theorem EStep0.of_simple {v : SV} (hI : PreA A P gl base θ l hp T w) (ho : ops[i]? = some o) (hw : Region.wanted o (yielded ops T) = true) (h : ∀ θ', HpOk θ' base hp w → TOk θ' l T → (execOp (Act.mk T []).eval o).run P w = .ok (.value (den θ' v)) w) :
    EStep0 P A θ rx fn T w ops i o hp rest k cs v [] := by
  have h0 := h θ (hI.inv θ (SameA.refl _ _)).1 (hI.inv θ (SameA.refl _ _)).2
  refine ⟨den θ v, w, fun _ => ⟨none, 0, 0⟩, step_value_mk ho hw h0 rest k cs, Below.refl _ _, fun θ' hs _ => ⟨?_, fun k x hk => by simp at hk, fun k k' x x' hk => by simp at hk⟩⟩
  have h1 := h θ' (hI.inv θ' hs).1 (hI.inv θ' hs).2
  rw [h0] at h1
  injection h1 with h1
  injection h1

theorem filterMap_own : ∀ {new : List (Option Vw)}, newOk new = true → ∀ (k : Nat) (x : Vw), (new.filterMap id)[k]? = some x → new[k]? = some (some x) ∧ x.own = true
  | [], _, k, x, h => by simp at h
  | none :: r, hn, k, x, h => by simp [newOk] at hn
  | some v :: r, hn, k, x, h => by
    have hv : v.own = true ∧ newOk r = true := by simpa [newOk] using hn
    simp only [List.filterMap_cons, id] at h
    cases k with
    | zero => simp at h; subst h; exact ⟨rfl, hv.1⟩
    | succ k => simp only [List.getElem?_cons_succ] at h ⊢; exact filterMap_own hv.2 k x h

theorem filterMap_len : ∀ {new : List (Option Vw)}, newOk new = true → (new.filterMap id).length = new.length
  | [], _ => rfl
  | none :: r, hn => by simp [newOk] at hn
  | some v :: r, hn => by
    have hv : v.own = true ∧ newOk r = true := by simpa [newOk] using hn
    simp [filterMap_len hv.2]

theorem EStep0.of_call {qs : List Prop} {hs hs2 : List Hint} {f : FuncId} {args : List SV} {σ : List Nat} {res : SV} {new : List (Option Vw)} (hI : PreA A P gl base θ l hp T w) (ho : ops[i]? = some o) (hw : Region.wanted o (yielded ops T) = true)
    (hop : sxOp P gl l hp hs o.op = some (qs, hs2, .enter f args)) (hqs : AllP qs) (hcall : SCall P gl f (rnmL (inv σ) args) (argV σ hp) res new) (hnew : newOk new = true) (hkn : ∀ t, t ∈ σ → A t) :
    EStep0 P A θ rx fn T w ops i o hp rest k cs (rnm (fwd σ hp.length) res) ((new.filterMap id).map (Vw.rnm (fwd σ hp.length))) := by
  obtain ⟨hh0, hT0⟩ := hI.inv θ (SameA.refl _ _)
  obtain ⟨as, hrun, has⟩ := sxOp_after (ds := []) hI hop hqs
  have hlen : (argV σ hp).length = σ.length := by simp [argV]
  have e1 : denL (fun k => θ (back σ k)) (rnmL (inv σ) args) = as := by
    rw [denL_rnm, has θ (SameA.refl _ _)]
    congr 1
    funext t
    rw [back_inv]
  have hc := hcall (fun k => θ (back σ k)) w (argV_ok hh0) hI.gok
  rw [e1] at hc
  obtain ⟨e, w', fr', ⟨hbel, r, rfl, nw, hnw⟩, hcomes, -, hleave⟩ := hc (mkFr rx fn T (.inRegion ops (i :: rest) :: k) :: cs)
  have hfin : (mkFr rx fn T (.inRegion ops (i :: rest) :: k)).finish r = mkFr rx fn ((Act.mk T []).put o.dst r).tmps (.inRegion ops rest :: k) := by
    exact fin_mk ho
  have hst : step P (lone (mkFr rx fn T (.inRegion ops (i :: rest) :: k)) cs w) = .next (lone (Frame.enter P f as.toArray .normal) (mkFr rx fn T (.inRegion ops (i :: rest) :: k) :: cs) w) :=
    stepM_enter ho hw hrun
  have hlst := step_leave_returned (c := mkFr rx fn T (.inRegion ops (i :: rest) :: k)) (cs := cs) hleave
  rw [hfin] at hlst
  refine ⟨r, w', nw, .head hst (Steps.trans hcomes (.one hlst)), hbel, fun θ' hs hn => ?_⟩
  have hfl := filterMap_len hnew
  have hsame : Same (argV σ hp).length (fun k => θ (back σ k)) (fun k => θ' (fwd σ hp.length k)) := fun k hk => by
    simp only [hlen] at hk
    simp only [back, fwd, hk, if_true]
    refine hs _ (hkn _ ?_)
    rw [List.getD_eq_getElem?_getD, List.getElem?_eq_getElem hk]
    exact List.getElem_mem hk
  obtain ⟨hr, hh2⟩ := hnw _ hsame (fun k hk => by
    simp only [hlen, fwd, show ¬ σ.length + k < σ.length by omega, if_false]
    rw [show hp.length + (σ.length + k - σ.length) = hp.length + k by omega]
    exact hn k (by simp [hfl]; exact hk))
  have hf : ∀ k, fwd σ hp.length (σ.length + k) = hp.length + k := fun k => by unfold fwd; rw [if_neg (by omega)]; omega
  have key : ∀ (k : Nat) (x : Vw), ((new.filterMap id).map (Vw.rnm (fwd σ hp.length)))[k]? = some x → ∃ u, (argV σ hp ++ new)[σ.length + k]? = some (some u) ∧ x = u.rnm (fwd σ hp.length) ∧ u.own = true ∧ θ' (fwd σ hp.length (σ.length + k)) = nw k := fun k x hk => by
    rw [List.getElem?_map] at hk
    cases hq : (new.filterMap id)[k]? with
    | none => simp [hq] at hk
    | some u =>
      simp [hq] at hk
      obtain ⟨h1, h2⟩ := filterMap_own hnew k u hq
      refine ⟨u, ?_, hk.symm, h2, ?_⟩
      · rw [List.getElem?_append_right (by omega), hlen, show σ.length + k - σ.length = k by omega]; exact h1
      · rw [hf]; exact hn k (by simp [hfl]; exact (List.getElem?_eq_some_iff.1 h1).1)
  refine ⟨by rw [hr, den_rnm], fun k x hk => ?_, fun k k' x x' hk hk' hne a a' ha ha' => ?_⟩
  · obtain ⟨u, h1, rfl, h3, h4⟩ := key k x hk
    have h5 := hh2.vw _ _ h1
    simp only [h4] at h5
    exact ⟨by rw [rnm_own]; exact h3, h5.rnm (Nat.le_refl _)⟩
  · obtain ⟨u, h1, rfl, h3, h4⟩ := key k x hk
    obtain ⟨u', h1', rfl, h3', h4'⟩ := key k' x' hk'
    exact hh2.ne _ _ u u' h1 h1' (by omega) h3 (.inl h3') a a' (by simp only [h4]; exact ha) (by simp only [h4']; exact ha')

/-- The same, where a view may be used up: its block turns. -/
def EStep (P : Program) (base : Nat) (A : Nat → Prop) (θ : Th) (rx : Rx) (fn : FuncId) (T : Array Value) (w : World) (ops : Array Oper) (i : Nat) (o : Oper) (hp : List (Option Vw)) (rest : List Nat) (k : List Item) (cs : List Frame) (v : SV) (news : List Vw) (con : Option Nat) : Prop :=
  ∃ r w', ∃ nw : Nat → Ad, Steps P (lone (mkFr rx fn T (.inRegion ops (i :: rest) :: k)) cs w) (lone (mkFr rx fn ((Act.mk T []).put o.dst r).tmps (.inRegion ops rest :: k)) cs w') ∧ Below base w w' ∧
    (∀ j, j < w.heap.size → (∀ t a, con = some t → (θ t).base = some a → a.block ≠ j) → w'.heap[j]? = w.heap[j]?) ∧ (∀ t, con = some t → ∃ x, hp[t]? = some (some x) ∧ x.own = true) ∧
    ∀ θ', SameA A θ θ' → (∀ k, k < news.length → θ' (hp.length + k) = nw k) → r = den θ' v ∧
      (∀ k x, news[k]? = some x → VwOk θ' base w' (nw k) x ∧ ((x.own = true ∧ ∀ a, (nw k).base = some a → w.heap.size ≤ a.block ∨ ∃ t a', con = some t ∧ (θ t).base = some a' ∧ a'.block = a.block) ∨
        (x.own = false ∧ ∃ s y, hp[s]? = some (some y) ∧ y.own = false ∧ (x.live → y.live ∧ ∀ a, (nw k).base = some a → ∃ a', (θ s).base = some a' ∧ a'.block = a.block)))) ∧
      ∀ (k k' : Nat) (x x' : Vw), news[k]? = some x → news[k']? = some x' → k ≠ k' → ∀ a a', (nw k).base = some a → (nw k').base = some a' → a.block ≠ a'.block

/-- A view of the call's own lies from its least block on. -/
theorem VwOk.ge {d : Ad} {x : Vw} {a : Addr} {b : Nat} (h : VwOk θ b w d x) (ho : x.own = true) (ha : d.base = some a) : b ≤ a.block := by
  cases x with
  | box o cs => obtain ⟨b', e1, e2, -⟩ := h.2 ho; rw [ha] at e1; cases e1; exact e2
  | row o el n sz f =>
    rcases h.2.2.2.2.2 ho with e | ⟨b', c, e1, e2, -⟩
    · rw [e.1] at ha; cases ha
    · rw [ha] at e1; cases e1; exact e2
  | map o k v f st => obtain ⟨b', e1, e2, -⟩ := h; rw [ha] at e1; cases e1; exact e2 ho

/-- A view stays where its block does. -/
theorem VwOk.kept {d : Ad} {x : Vw} {w' : World} {ok : Nat → Prop} (hx : VwOk θ base w d x) (hg : ∀ j, j < w.heap.size → ok j → w'.heap[j]? = w.heap[j]?) (hne : (x.own = true ∨ x.live) → ∀ a, d.base = some a → ok a.block) : VwOk θ base w' d x := by
  have hL : ∀ {a : Addr} {j : Nat} {cs : List SV}, (x.own = true ∨ x.live) → d.base = some a → Lies θ w a j cs → Lies θ w' a j cs := fun {a} {j} {cs} hl ha hlie k v hk => by
    have hlt := World.block_lt_of_cell? w _ (hlie k v hk)
    rw [← hlie k v hk]
    exact World.cell?_of_block (hg _ hlt (hne hl a ha))
  have hB : ∀ {b : Nat} {y : Obj}, x.own = true → d.base = some ⟨b, 0, none⟩ → w.heap[b]? = some y → w'.heap[b]? = some y := fun hl ha hb => by
    rw [hg _ (Array.getElem?_eq_some_iff.1 hb).1 (hne (.inl hl) _ ha)]
    exact hb
  cases x with
  | box o cs =>
    refine ⟨fun hn => ?_, fun ho' => ?_⟩
    · obtain ⟨a, ha, hlie⟩ := hx.1 hn; exact ⟨a, ha, hL (.inr hn) ha hlie⟩
    · obtain ⟨b, h1, h2, c, el, h3, h4⟩ := hx.2 ho'; exact ⟨b, h1, h2, c, el, hB ho' h1 h3, h4⟩
  | row o el n sz f =>
    obtain ⟨h1, h2, h3, hf, h4, h5⟩ := hx
    refine ⟨h1, h2, h3, hf, fun a ha i hi => ?_, fun ho' => ?_⟩
    · rcases Nat.eq_zero_or_pos sz with h0 | h0
      · have := (hf i hi).1
        rw [h0] at this
        rw [List.length_eq_zero_iff.1 this]
        intro k v hk; simp at hk
      · exact hL (.inr ⟨by omega, h0⟩) ha (h4 a ha i hi)
    · rcases h5 ho' with h | ⟨b, c, e1, e2, e3, e4⟩
      · exact .inl h
      · exact .inr ⟨b, c, e1, e2, hB ho' e1 e3, e4⟩
  | map o k v f st =>
    obtain ⟨b, h1, h2, es, c, h3, h4⟩ := hx
    exact ⟨b, h1, h2, es, c, by rw [hg _ (Array.getElem?_eq_some_iff.1 h3).1 (hne (.inr trivial) _ h1)]; exact h3, h4⟩

theorem EStep0.lift {v : SV} {news : List Vw} (hsz : base ≤ w.heap.size) (h : EStep0 P A θ rx fn T w ops i o hp rest k cs v news) : EStep P base A θ rx fn T w ops i o hp rest k cs v news none := by
  obtain ⟨r, w', nw, hst, hbel, hfin⟩ := h
  refine ⟨r, w', nw, hst, hbel.mono hsz, fun j hj _ => hbel.block j hj, fun t ht => (by cases ht), fun θ' hs hn => ?_⟩
  obtain ⟨h1, h2, h3⟩ := hfin θ' hs hn
  exact ⟨h1, fun k x hk => ⟨(h2 k x hk).2.mono hsz, .inl ⟨(h2 k x hk).1, fun a ha => .inl ((h2 k x hk).2.ge (h2 k x hk).1 ha)⟩⟩, h3⟩

theorem EStep.of_append {t el n m tg tx : Nat} {s x : Operand} {i' : TypeInfo} {z : Value} {ox : Bool} {elx : TypeId} {f f' f'' : Nat → List SV} (hI : PreA A P gl base θ l hp T w) (hoi : ops[i]? = some o) (hw : Region.wanted o (yielded ops T) = true)
    (ho : o.op = .call ⟨.builtin .append, #[s, x], #[t, t]⟩) (hu : P.underlying t = some (.slice el)) (hi : P.info? el = some i') (hz : i'.zero = some z) (hzs : z.cells.size = i'.size) (h0 : 0 < i'.size) (hb0 : 1 ≤ i'.bytes)
    (hs : ev l s = some (.sl tg n)) (hx : ev l x = some (.sl tx m)) (hts : getV hp tg = some (.row true el n i'.size f)) (htx : getV hp tx = some (.row ox elx m i'.size f'))
    (hb : (n + m) * i'.bytes ≤ 140737488355328) (hf : ∀ k, k < n + m → f'' k = if k < n then f k else f' (k - n)) :
    EStep P base A θ rx fn T w ops i o hp rest k cs (.sl hp.length (n + m)) [.row true el (n + m) i'.size f''] (some tg) := by
  have hA : AppSrc P t el i'.size i'.bytes := ⟨hu, ⟨i', z, hi, hz, rfl, rfl, hzs⟩, h0⟩
  have hm : n + m ≤ maxLen := by
    have : (n + m) * 1 ≤ (n + m) * i'.bytes := Nat.mul_le_mul_left _ hb0
    unfold maxLen
    omega
  obtain ⟨hh0, hT0⟩ := hI.inv θ (SameA.refl _ _)
  have htv := getV_some hts
  have hxv := getV_some htx
  obtain ⟨v', w', d', hr, hv', hbel, hkeep, hnew, hvw⟩ := app_core (P := P) (w := w) (θ := θ) (ty := o.type) (f'' := f'') hA hI.sz (hh0.vw tg _ htv) (hh0.vw tx _ hxv) hb hm
  have hrun : (execOp (Act.mk T []).eval o).run P w = .ok (.value v') w' := by
    simp only [execOp, ho, resolve, invoke, builtin, Sem.run_bind, Sem.run_pure, Result.andThen_ok]
    have ea : (#[s, x].map (Act.mk T []).eval) = #[den θ (.sl tg n), den θ (.sl tx m)] := by
      simp [ev_den hT0 hs, ev_den hT0 hx]
    rw [ea]
    simp only [den] at hr ⊢
    rw [hr]
    rfl
  refine ⟨v', w', fun _ => d', step_value_mk hoi hw hrun rest k cs, hbel, fun j hj hne => hkeep j hj (fun a ha => hne tg a rfl ha), fun t' ht' => (by cases ht'; exact ⟨_, htv, rfl⟩), fun θ' hsm hn => ?_⟩
  have hd := hn 0 (by simp)
  simp only [Nat.add_zero] at hd
  obtain ⟨hh, hT⟩ := hI.inv θ' hsm
  have e1 : θ' tg = θ tg := hsm tg (hI.kn tg _ htv)
  have e2 : θ' tx = θ tx := hsm tx (hI.kn tx _ hxv)
  refine ⟨by rw [hv']; simp [den, hd], fun k x hk => ?_, fun k k' x x' hk hk' hne => ?_⟩
  · cases k with
    | zero =>
      simp at hk; subst hk
      refine ⟨hvw θ' (by rw [← e1]; exact hh.vw tg _ htv) (by rw [← e2]; exact hh.vw tx _ hxv) hf, .inl ⟨rfl, fun a ha => ?_⟩⟩
      rcases hnew a ha with h | ⟨a', h1, h2⟩
      · exact .inl h
      · exact .inr ⟨tg, a', rfl, h1, h2⟩
    | succ k => simp at hk
  · cases k with
    | zero => cases k' with
      | zero => exact absurd rfl hne
      | succ k' => simp at hk'
    | succ k => simp at hk

theorem EStep.of_slice {t el el' n sz tg : Nat} {x : Operand} {lo hi : Option Operand} {f : Nat → List SV} {kk kk' : IntKind} {a b : Int} (hI : PreA A P gl base θ l hp T w) (hoi : ops[i]? = some o) (hw : Region.wanted o (yielded ops T) = true)
    (ho : o.op = .slice t x lo hi none) (hu : P.underlying t = some (.slice el)) (hx : ev l x = some (.sl tg n))
    (ht : getV hp tg = some (.row false el' n sz f)) (hsz : szOf P el = some sz) (ha : (match lo with | some a => ev l a | none => some (SV.val (.int .i64 0))) = some (.val (.int kk a))) (hb : (match hi with | some a => ev l a | none => some (SV.val (.int .i64 (n : Int)))) = some (.val (.int kk' b)))
    (hbn : 0 ≤ b ∧ b ≤ (n : Int)) (hab : 0 ≤ a ∧ a ≤ b) :
    EStep P base A θ rx fn T w ops i o hp rest k cs (.sl hp.length (b.toNat - a.toNat)) [.row false el' (b.toNat - a.toNat) sz (fun k => f (k + a.toNat))] none := by
  obtain ⟨r, d, hr, hfin⟩ := slice_core (ds := []) hI ho hu hx ht hsz ha hb hbn hab
  refine ⟨r, w, fun _ => d, step_value_mk hoi hw hr rest k cs, Below.refl _ _, fun _ _ _ => rfl, fun t' ht' => (by cases ht'), fun θ' hsm hn => ?_⟩
  have hd := hn 0 (by simp)
  simp only [Nat.add_zero] at hd
  obtain ⟨e1, hh, hsame, hnew', hblk⟩ := hfin θ' hsm hd
  refine ⟨e1, fun k x hk => ?_, fun k k' x x' hk hk' hne => ?_⟩
  · cases k with
    | zero =>
      simp at hk; subst hk
      rw [hd] at hnew' hblk
      exact ⟨hnew', .inr ⟨rfl, tg, _, getV_some ht, rfl, fun hl => ⟨⟨by have := hl.1; omega, hl.2⟩, fun a ha => hblk hl.1 a ha⟩⟩⟩
    | succ k => simp at hk
  · cases k with
    | zero => cases k' with
      | zero => exact absurd rfl hne
      | succ k' => simp at hk'
    | succ k => simp at hk

theorem sxE_step {hs hs' : List Hint} {ps : List Prop} {v : SV} {news : List Vw} {con : Option Nat} (hI : PreA A P gl base θ l hp T w) (ho : ops[i]? = some o) (hw : Region.wanted o (yielded ops T) = true)
    (h : sxE P gl l hp hs o.op = some (ps, hs', v, news, con)) (hps : AllP ps) :
    EStep P base A θ rx fn T w ops i o hp rest k cs v news con := by
  have hV : (match sxV P gl l hp hs o.op with
      | some (ps, hs', v) => some (ps, hs', v, ([] : List Vw), (none : Option Nat))
      | none => none) = some (ps, hs', v, news, con) → EStep P base A θ rx fn T w ops i o hp rest k cs v news con := by
    intro h
    split at h
    · rename_i ps' hs'' v' hx
      simp only [Option.some.injEq, Prod.mk.injEq] at h
      obtain ⟨rfl, -, rfl, rfl, rfl⟩ := h
      exact (EStep0.of_simple hI ho hw (fun θ' hh hT => sxV_run hx hps hI.gok hh hT)).lift hI.sz
    · cases h
  have hT0 := (hI.inv θ (SameA.refl _ _)).2
  cases hop : o.op <;> rw [hop] at h hV <;> simp only [sxE] at h <;> try exact hV h
  case alloc e' =>
    split at h
    · rename_i i hi
      split at h
      · rename_i z hz; cases h; exact (EStep0.of_new hI ho hw (alloc_new hop hi hz) rfl).lift hI.sz
      · cases h
    · cases h
  case box e' x =>
    split at h
    · rename_i v hv
      split at h
      · rename_i cs hc; cases h; exact (EStep0.of_new hI ho hw (box_new hop hv hc) rfl).lift hI.sz
      · cases h
    · cases h
  case buildSlice t n parts =>
    split at h
    · rename_i el vs hu hv
      split at h
      · rename_i i rows hi hr
        split at h
        · rename_i z f hs'' hz
          split at h
          · rename_i hq
            simp only [Bool.and_eq_true, beq_iff_eq, decide_eq_true_eq] at hq
            obtain ⟨⟨⟨⟨h1, h2⟩, h3⟩, h4⟩, h5⟩ := hq
            cases h
            exact (EStep0.of_new hI ho hw (lit_new hT0 hop hu hi hz h1 rfl h2 h3 hv hr h4 h5 hps.1) rfl).lift hI.sz
          · cases h
        · cases h
      · cases h
    · cases h
  case makeSlice t x y =>
    split at h
    · rename_i el k n k' n' hu hx hy
      split at h
      · rename_i i hi
        split at h
        · rename_i z hz
          split at h
          · rename_i hq
            simp only [Bool.and_eq_true, beq_iff_eq, decide_eq_true_eq] at hq
            obtain ⟨⟨h1, h2⟩, h3⟩ := hq
            cases h
            obtain ⟨rfl, h5, h6, h7, -⟩ := hps
            exact (EStep0.of_new hI ho hw (make_new hT0 hop hu hi hz h1 rfl h2 hx hy h3 h5 h6 h7) rfl).lift hI.sz
          · cases h
        · cases h
      · cases h
    · cases h
  case slice t x lo hi mx =>
    cases mx with
    | some y => exact hV h
    | none =>
      simp only at h
      split at h
      · rename_i el tg n hu hx
        split at h
        · rename_i el' m sz f s ka a kb b ht hsz ha hb
          split at h
          · rename_i hq
            rw [beq_iff_eq] at hq
            subst hq
            simp only [Option.some.injEq, Prod.mk.injEq] at h
            obtain ⟨rfl, -, rfl, rfl, rfl⟩ := h
            obtain ⟨rfl, g1, g2, -⟩ := hps
            exact EStep.of_slice hI ho hw hop hu hx ht hsz ha hb g1 g2
          · cases h
        · cases h
      · exact hV h
  case call c =>
    obtain ⟨callee, args, ats⟩ := c
    cases callee with
    | invoke r m => exact hV h
    | builtin b =>
      cases b <;> try exact hV h
      simp only at h
      split at h
      · rename_i s x t t' ea eb
        split at h
        · rename_i el ts n tx m f'' hs'' hu hes hex
          split at h
          · rename_i i' ox elx m' sx f' el' n' ss f hi htx hts
            split at h
            · rename_i z hz
              split at h
              · rename_i hq
                simp only [Bool.and_eq_true, beq_iff_eq, decide_eq_true_eq] at hq
                obtain ⟨⟨⟨⟨⟨⟨rfl, h2⟩, h3⟩, h4⟩, rfl⟩, rfl⟩, rfl⟩ := hq
                simp only [Option.some.injEq, Prod.mk.injEq] at h
                obtain ⟨rfl, -, rfl, rfl, rfl⟩ := h
                obtain ⟨rfl, rfl, g3, g4, -⟩ := hps
                have e1 : args = #[s, x] := by cases args; simp_all
                have e2 : ats = #[t, t] := by cases ats; simp_all
                subst e1 e2
                exact EStep.of_append hI ho hw hop hu hi hz h2 h3 h4 hes hex hts htx g3 g4
              · cases h
            · cases h
          · cases h
        · cases h
      · cases h
    | value f =>
      simp only at h
      split at h
      · exact hV h
      · rename_i qs σ res new hs'' g as hx
        split at h
        · rename_i hq
          simp only [Bool.and_eq_true] at hq
          simp only [Option.some.injEq, Prod.mk.injEq] at h
          obtain ⟨rfl, -, rfl, rfl, rfl⟩ := h
          obtain ⟨h1, h2⟩ := AllP_append hps
          refine (EStep0.of_call hI ho hw (by rw [hop]; exact hx) h1 h2.1 hq.1 (fun t ht => ?_)).lift hI.sz
          have h3 := List.all_eq_true.1 hq.2 t ht
          simp only [Bool.and_eq_true, decide_eq_true_eq] at h3
          obtain ⟨-, h4⟩ := h3
          cases hg : getV hp t with
          | none => simp [hg] at h4
          | some u => exact hI.kn t u (getV_some hg)
        · cases h
      · cases h

end

end Go.Sx
