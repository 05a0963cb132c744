/-
  SX, part 3: memory: new variables, stores, rows, appends.
-/
import Derived.Test.YtehnnaanpmceiaaGreatDoorSx2
import Derived.Laws.MakeOwn
set_option linter.unusedVariables false
set_option linter.unusedSimpArgs false
namespace Go.Sx
open Go.RowKit

section
variable {P : Program} {gl : List (Nat × Vw)} {base : Nat} {θ : Th} {l : List (Option SV)} {hp : List (Option Vw)} {T : Array Value} {w : World} {run : Result Next}

theorem After.of_skip {hp' : List (Option Vw)} {A : Nat → Prop} (hI : PreA A P gl base θ l hp T w) (hlen : hp.length = hp'.length)
    (h : ∀ θ', HpOk θ' base hp w → TOk θ' l T → ∃ w', run = .ok .skip w' ∧ Below base w w' ∧ HpOk θ' base hp' w') : AfterA A P base θ hp w run (.skip hp') := by
  obtain ⟨w', h0, hb, -⟩ := h θ (hI.inv θ (SameA.refl _ _)).1 (hI.inv θ (SameA.refl _ _)).2
  refine ⟨w', h0, hb, hlen, fun θ' hs => ?_⟩
  obtain ⟨w'', h1, -, hk⟩ := h θ' (hI.inv θ' hs).1 (hI.inv θ' hs).2
  rw [h0] at h1
  injection h1 with _ h1
  subst h1
  exact hk

theorem VwOk.mono {d : Ad} {v : Vw} {b : Nat} (h : VwOk θ b w d v) (hb : base ≤ b) : VwOk θ base w d v := by
  cases v with
  | box o cs =>
    refine ⟨h.1, fun ho => ?_⟩
    obtain ⟨b', h1, h2, h3⟩ := h.2 ho
    exact ⟨b', h1, by omega, h3⟩
  | row o el n sz f =>
    obtain ⟨h1, h2, h3, h4, h5, h6⟩ := h
    refine ⟨h1, h2, h3, h4, h5, fun ho => ?_⟩
    rcases h6 ho with h | ⟨b', c, e1, e2, e3⟩
    · exact .inl h
    · exact .inr ⟨b', c, e1, by omega, e3⟩
  | map o k v f st => obtain ⟨b', h1, h2, h3⟩ := h; exact ⟨b', h1, fun ho => Nat.le_trans hb (h2 ho), h3⟩

/-- A run that lays one new view. -/
def NewRun (base : Nat) (l : List (Option SV)) (hp : List (Option Vw)) (T : Array Value) (w : World) (run : Result Next) (v : SV) (vw : Vw) : Prop :=
  ∃ r w' d, run = .ok (.value r) w' ∧ Below w.heap.size w w' ∧ (∀ a, Ad.base d = some a → w.heap.size ≤ a.block) ∧
      ∀ θ', HpOk θ' base hp w → TOk θ' l T → θ' hp.length = d → r = den θ' v ∧ VwOk θ' w.heap.size w' d vw

/-- One new view, which the run itself lays. -/
theorem After.of_new {v : SV} {vw : Vw} {A : Nat → Prop} (hI : PreA A P gl base θ l hp T w)
    (h : NewRun base l hp T w run v vw) : AfterA A P base θ hp w run (.val v (hp ++ [some vw])) := by
  obtain ⟨r, w', d, h0, hb, hn, hk⟩ := h
  refine ⟨r, w', fun _ => d, h0, hb.mono hI.sz, by simp, fun θ' hs hnew => ?_⟩
  have hd : θ' hp.length = d := hnew 0 (by simp)
  obtain ⟨hh, ht⟩ := hI.inv θ' hs
  obtain ⟨h1, h2⟩ := hk θ' hh ht hd
  exact ⟨hh.push hb hd (h2.mono hI.sz) hn, h1⟩

theorem below_alloc_self (w : World) (o : Obj) : Below w.heap.size w (w.alloc o) := (Below.refl _ _).alloc (Nat.le_refl _) o

theorem lies_new {cs : List SV} (w : World) (e : TypeId) (θ : Th) : Lies θ (w.alloc (.cells (denL θ cs).toArray e)) ⟨w.heap.size, 0, none⟩ 0 cs := by
  intro k v hk
  show World.cell? _ ⟨w.heap.size, 0 + (0 + k), none⟩ = _
  rw [show 0 + (0 + k) = k by omega, World.cell?_alloc_new]
  exact denL_get hk

theorem vwOk_new {cs : List SV} (w : World) (e : TypeId) (θ : Th) (hb : base ≤ w.heap.size) (cap sz : Nat) :
    VwOk θ base (w.alloc (.cells (denL θ cs).toArray e)) ⟨some ⟨w.heap.size, 0, none⟩, cap, sz⟩ (.box true cs) := by
  refine ⟨fun _ => ⟨_, rfl, lies_new w e θ⟩, fun _ => ⟨_, rfl, hb, (denL θ cs).toArray, e, ?_, by simp [denL_map]⟩⟩
  show (w.heap.push _)[w.heap.size]? = _
  simp

theorem run_newVar {t : TypeId} {v : Value} : (newVar t v).run P w = .ok ⟨w.heap.size, 0, none⟩ (w.alloc (.cells v.cells t)) := rfl

theorem alloc_new {o : Oper} {a : Act} {e : TypeId} {i : TypeInfo} {z : Value} (ho : o.op = .alloc e) (hi : P.info? e = some i) (hz : i.zero = some z) :
    NewRun base l hp T w ((execOp a.eval o).run P w) (.ptr hp.length 0) (.box true (z.cells.toList.map .val)) := by
  refine ⟨.pointer (some ⟨w.heap.size, 0, none⟩), w.alloc (.cells z.cells e), ⟨some ⟨w.heap.size, 0, none⟩, 0, 0⟩, ?_, below_alloc_self _ _, fun a ha => ?_, fun θ' hh ht hd => ⟨?_, ?_⟩⟩
  · simp only [execOp, ho, Instr.alloc, Sem.run_bind, zeroValue, typeInfo, run_program, hi, hz, Result.andThen_ok, Sem.run_pure, run_newVar]
  · cases ha; exact Nat.le_refl _
  · simp [den, hd, at_]
  · have := vwOk_new (cs := z.cells.toList.map .val) w e θ' (Nat.le_refl _) 0 0
    rw [denL_vals] at this
    exact this

theorem box_new {o : Oper} {ds : List Deferred} {e : TypeId} {x : Operand} {v : SV} {cs : List SV} (ho : o.op = .box e x) (hv : ev l x = some v) (hc : cellsS v = some cs) :
    NewRun base l hp T w ((execOp (Act.mk T ds).eval o).run P w) (.ptr hp.length 0) (.box true cs) := by
  refine ⟨.pointer (some ⟨w.heap.size, 0, none⟩), w.alloc (.cells ((Act.mk T ds).eval x).cells e), ⟨some ⟨w.heap.size, 0, none⟩, 0, 0⟩, ?_, below_alloc_self _ _, fun a ha => ?_, fun θ' hh ht hd => ⟨?_, ?_⟩⟩
  · simp only [execOp, ho, Instr.box, Sem.run_bind, run_newVar, Result.andThen_ok, Sem.run_pure]
  · cases ha; exact Nat.le_refl _
  · simp [den, hd, at_]
  · rw [ev_den ht hv, cellsS_den hc]
    exact vwOk_new w e θ' (Nat.le_refl _) 0 0

theorem VwOk.other {d : Ad} {v : Vw} {w' : World} {b : Nat} (h : VwOk θ base w d v) (hw : ∀ k, k ≠ b → w'.heap[k]? = w.heap[k]?)
    (hne : ∀ a, d.base = some a → (v.own = true ∨ v.live) → a.block ≠ b) : VwOk θ base w' d v := by
  have hL : ∀ {a : Addr} {j : Nat} {cs : List SV}, a.block ≠ b → Lies θ w a j cs → Lies θ w' a j cs := fun hb hl k v hk => by
    rw [← hl k v hk]
    exact World.cell?_of_block (hw _ hb)
  cases v with
  | box o cs =>
    refine ⟨fun hn => ?_, fun ho => ?_⟩
    · obtain ⟨a, ha, hl⟩ := h.1 hn; exact ⟨a, ha, hL (hne a ha (.inr hn)) hl⟩
    · obtain ⟨b', h1, h2, c, el, h3, h4⟩ := h.2 ho; exact ⟨b', h1, h2, c, el, by rw [hw b' (hne _ h1 (.inl ho))]; exact h3, h4⟩
  | row o el n sz f =>
    obtain ⟨h1, h2, h3, hf, h4, h5⟩ := h
    refine ⟨h1, h2, h3, hf, fun a ha i hi => ?_, fun ho => ?_⟩
    · rcases Nat.eq_zero_or_pos sz with h0 | h0
      · have := (hf i hi).1
        rw [h0] at this
        rw [List.length_eq_zero_iff.1 this]
        intro k v hk; simp at hk
      · exact hL (hne a ha (.inr ⟨by omega, h0⟩)) (h4 a ha i hi)
    · rcases h5 ho with h | ⟨b', c, e1, e2, e3, e4⟩
      · exact .inl h
      · exact .inr ⟨b', c, e1, e2, by rw [hw b' (hne _ e1 (.inl ho))]; exact e3, e4⟩
  | map o k v f st => obtain ⟨b', h1, h2, es, c, h3, h4⟩ := h; exact ⟨b', h1, h2, es, c, by rw [hw b' (hne _ h1 (.inr trivial))]; exact h3, h4⟩

/-- A view of the call's own is written: the others are as they were. -/
theorem HpOk.write {w' : World} {t b : Nat} {v v' : Vw} (h : HpOk θ base hp w) (ht : hp[t]? = some (some v)) (ho : v.own = true) (ho' : v'.own = true) {a : Addr} (hb : (θ t).base = some a) (hab : a.block = b)
    (hw : ∀ k, k ≠ b → w'.heap[k]? = w.heap[k]?) (hv : VwOk θ base w' (θ t) v') : HpOk θ base (hp.set t (some v')) w' := by
  have htl : t < hp.length := (List.getElem?_eq_some_iff.1 ht).1
  have key : ∀ s x, (hp.set t (some v'))[s]? = some (some x) → (s ≠ t ∧ hp[s]? = some (some x)) ∨ (s = t ∧ x = v') := by
    intro s x hs
    rw [List.getElem?_set] at hs
    split at hs
    · rename_i he; subst he; simp [htl] at hs; exact .inr ⟨rfl, hs.symm⟩
    · rename_i he; exact .inl ⟨fun e => he e.symm, hs⟩
  refine ⟨fun s x hs => ?_, fun s s' x x' hs hs' hne hx hl c c' hc hc' => ?_⟩
  · rcases key s x hs with ⟨h1, h2⟩ | ⟨rfl, rfl⟩
    · exact (h.vw s x h2).other hw (fun c hc hl => by have := h.ne t s v x ht h2 (fun e => h1 e.symm) ho hl a c hb hc; rw [hab] at this; exact fun e => this e.symm)
    · exact hv
  · rcases key s x hs with ⟨h1, h2⟩ | ⟨rfl, rfl⟩ <;> rcases key s' x' hs' with ⟨h3, h4⟩ | ⟨rfl, rfl⟩
    · exact h.ne s s' x x' h2 h4 hne hx hl c c' hc hc'
    · exact h.ne s s' x v h2 ht hne hx (.inl ho) c c' hc hc'
    · exact h.ne s s' v x' ht h4 hne ho hl c c' hc hc'
    · exact absurd rfl hne

theorem below_setRow {b : Nat} (hb : base ≤ b) (cs : Array Value) : Below base w (w.setRow b cs) :=
  ⟨rfl, rfl, rfl, by simp, fun k hk => setRow_other w b k cs (by omega)⟩

theorem run_storeVar' {ty : TypeId} {b o : Nat} {el : TypeId} {c : Array Value} {v : SV} {vcs : List SV} (hg : w.heap[b]? = some (.cells c el (0, 0))) (hsz : szOf P ty = some vcs.length) (hc : cellsS v = some vcs)
    (h1 : vcs.all one = true) (hl : o + vcs.length ≤ c.size) :
    (storeVar ty ⟨b, o, none⟩ (den θ v)).run P w = .ok () (w.setRow b (c.toList.take o ++ denL θ vcs ++ c.toList.drop (o + vcs.length)).toArray) := by
  unfold storeVar
  have hs : (den θ v).cells.size = vcs.length := by rw [cellsS_den hc]; simp [denL_map]
  rw [Sem.run_bind, run_sizeOf hsz]
  simp only [Result.andThen_ok, hs, ne_eq, not_true_eq_false, if_false]
  have := run_storeCells_at (P := P) b o el (denL θ vcs) 0 c w hg (by simp [denL_map]; omega) (fun u hu => by
    rw [denL_map, List.mem_map] at hu
    obtain ⟨x, hx, rfl⟩ := hu
    exact one_den (List.all_eq_true.1 h1 x hx))
  simp only [Nat.add_zero, denL_map, List.length_map] at this
  simp only [Sem.run_bind, Sem.run_pure, Result.andThen_ok, cellsS_den hc, denL_map]
  exact this

theorem whole_cells {b : Nat} {cs : List SV} {c : Array Value} {el : TypeId} (hg : w.heap[b]? = some (.cells c el (0, 0))) (hs : c.size = cs.length) (hl : Lies θ w ⟨b, 0, none⟩ 0 cs) : c.toList = denL θ cs := by
  apply List.ext_getElem?
  intro k
  rw [denL_map, List.getElem?_map]
  cases hk : cs[k]? with
  | none =>
    have := List.getElem?_eq_none_iff.1 hk
    simp; omega
  | some v =>
    have := hl k v hk
    simp only [at_, Nat.zero_add, World.cell?, hg] at this
    simpa using this

theorem store_box_after {o : Oper} {ds : List Deferred} {ty : TypeId} {p x : Operand} {t j : Nat} {v : SV} {cs vcs : List SV} {A : Nat → Prop} (hI : PreA A P gl base θ l hp T w) (ho : o.op = .store ty p x) (hp' : ev l p = some (.ptr t j)) (hv : ev l x = some v)
    (ht : getV hp t = some (.box true cs)) (hsz : szOf P ty = some vcs.length) (hc : cellsS v = some vcs) (h1 : vcs.all one = true) (hle : j + vcs.length ≤ cs.length) :
    AfterA A P base θ hp w ((execOp (Act.mk T ds).eval o).run P w) (.skip (hp.set t (some (.box true (cs.take j ++ vcs ++ cs.drop (j + vcs.length)))))) := by
  refine After.of_skip hI (by simp) (fun θ' hh hT => ?_)
  have htv := getV_some ht
  obtain ⟨hA, hB⟩ := hh.vw t _ htv
  obtain ⟨b, hb, hbb, c, el, hg, hcs⟩ := hB rfl
  have hlen : 0 + j + vcs.length ≤ c.size := by omega
  refine ⟨w.setRow b (c.toList.take j ++ denL θ' vcs ++ c.toList.drop (j + vcs.length)).toArray, ?_, below_setRow hbb _, ?_⟩
  · have hs := run_storeVar' (P := P) (θ := θ') (ty := ty) (o := j) hg hsz hc h1 (by omega)
    simp only [execOp, ho, Instr.storeAt, Sem.run_bind, ev_den hT hp', ev_den hT hv, den, hb, Option.map_some, at_, Nat.zero_add, Instr.sureAddr, Sem.run_pure, Result.andThen_ok, hs]
  · refine hh.write (v' := .box true _) htv rfl rfl hb rfl (fun k hk => setRow_other w b k _ hk) ?_
    have hnew : (w.setRow b (c.toList.take j ++ denL θ' vcs ++ c.toList.drop (j + vcs.length)).toArray).heap[b]? = some (.cells (c.toList.take j ++ denL θ' vcs ++ c.toList.drop (j + vcs.length)).toArray el (0, 0)) :=
      setRow_heap w b c _ el (0, 0) hg
    have hcell : cs ≠ [] → c.toList = denL θ' cs := fun hn => by
      obtain ⟨a, ha, hl⟩ := hA hn
      rw [hb] at ha; cases ha
      exact whole_cells hg hcs hl
    refine ⟨fun hn => ⟨_, hb, ?_⟩, fun _ => ⟨b, hb, hbb, _, el, hnew, by simp [denL_map, hcs]⟩⟩
    intro k u hk
    simp only [at_, Nat.zero_add, World.cell?, hnew]
    have hcs' : c.toList = denL θ' cs := by
      by_cases he : cs = []
      · subst he
        simp at hcs
        simp [denL, hcs]
      · exact hcell he
    rw [hcs']
    have := denL_get (θ := θ') hk
    simpa [denL_map, List.map_take, List.map_drop] using this

theorem flatten_get : ∀ (rows : List (List SV)) (sz : Nat) (hsz : ∀ r ∈ rows, r.length = sz) (i k : Nat) (v : SV) (hi : i < rows.length), k < sz → rows[i][k]? = some v → rows.flatten[i * sz + k]? = some v
  | [], sz, hsz, i, k, v, hi, hk, h => by simp at hi
  | r :: rows, sz, hsz, 0, k, v, hi, hk, h => by
    have hr := hsz r List.mem_cons_self
    simp only [List.flatten_cons, Nat.zero_mul, Nat.zero_add]
    rw [List.getElem?_append_left (by omega)]
    exact h
  | r :: rows, sz, hsz, i + 1, k, v, hi, hk, h => by
    have hr := hsz r List.mem_cons_self
    have ih := flatten_get rows sz (fun x hx => hsz x (List.mem_cons_of_mem _ hx)) i k v (by simpa using hi) hk (by simpa using h)
    simp only [List.flatten_cons]
    rw [List.getElem?_append_right (by rw [hr, Nat.add_mul]; omega)]
    rw [← ih]
    congr 1
    rw [hr, Nat.add_mul]; omega

theorem newSlice_ok {el n sz : Nat} {f : Nat → List SV} {rows : List (List SV)} (hb : base ≤ w.heap.size) (hr : rows.length = n) (hsz : ∀ r ∈ rows, r.length = sz) (hone : ∀ r ∈ rows, r.all one = true) (hf : ∀ i, i < n → f i = rows.getD i []) (hm : n ≤ maxLen) :
    VwOk θ base (w.alloc (.cells (denL θ rows.flatten).toArray el)) ⟨some ⟨w.heap.size, 0, none⟩, n, sz⟩ (.row true el n sz f) := by
  have hfl : ∀ i, i < n → (f i).length = sz ∧ (f i).all one = true := fun i hi => by
    rw [hf i hi, List.getD_eq_getElem?_getD, List.getElem?_eq_getElem (by omega)]
    exact ⟨hsz _ (List.getElem_mem _), hone _ (List.getElem_mem _)⟩
  have htot : rows.flatten.length = n * sz := by
    rw [List.length_flatten]
    have : rows.map List.length = List.replicate n sz := by
      apply List.ext_getElem
      · simp [hr]
      · intro i h1 h2
        simp at h1 ⊢
        exact hsz _ (List.getElem_mem _)
    rw [this]; simp
  refine ⟨rfl, Nat.le_refl _, ⟨.inr ⟨_, rfl⟩, fun a ha => by cases ha; rfl⟩, hfl, fun a ha i hi => ?_, fun _ => .inr ⟨w.heap.size, _, rfl, hb, by show (w.heap.push _)[w.heap.size]? = _; simp; rfl, by simp only [denL_map, List.size_toArray, List.length_map, htot], hm⟩⟩
  cases ha
  intro k v hk
  have hksz : k < sz := by have := (List.getElem?_eq_some_iff.1 hk).1; rw [(hfl i hi).1] at this; exact this
  have hri : i < rows.length := by omega
  have hfe : f i = rows[i] := by rw [hf i hi, List.getD_eq_getElem?_getD, List.getElem?_eq_getElem hri, Option.getD_some]
  have := lies_new (cs := rows.flatten) w el θ (i * sz + k) v (flatten_get rows sz hsz i k v hri hksz (hfe ▸ hk))
  simpa [at_, Nat.add_assoc] using this

/-- The rows of a slice literal: each part's cells. -/
def rowsOf : Nat → List (Nat × SV) → Option (List (List SV))
  | _, [] => some []
  | k, (i, v) :: r => if i == k then match cellsS v, rowsOf (k + 1) r with
      | some cs, some rs => some (cs :: rs)
      | _, _ => none
    else none

theorem fill_rows {θ : Th} (sz : Nat) : ∀ (parts : List (Nat × SV)) (k : Nat) (rs : List (List SV)) (acc : List Value), rowsOf k parts = some rs → (∀ r ∈ rs, r.length = sz) → (k + rs.length) * sz ≤ acc.length →
    Instr.fill (fun i => some (i * sz, sz)) acc.toArray (parts.map fun p => (p.1, den θ p.2)) = some (acc.take (k * sz) ++ denL θ rs.flatten ++ acc.drop ((k + rs.length) * sz)).toArray
  | [], k, rs, acc, h, hs, hl => by
    simp only [rowsOf, Option.some.injEq] at h
    subst h
    simp [Instr.fill, denL]
  | (i, v) :: r, k, rs, acc, h, hs, hl => by
    simp only [rowsOf] at h
    split at h
    · rename_i hik
      rw [beq_iff_eq] at hik
      subst hik
      split at h
      · rename_i cs rs' hc hr
        cases h
        have hcl : cs.length = sz := hs cs List.mem_cons_self
        have hsz : (denL θ cs).toArray.size = sz := by simp [denL_map, hcl]
        simp only [List.length_cons] at hl
        have hle : i * sz + sz ≤ acc.length := by
          have : (i + (rs'.length + 1)) * sz = i * sz + sz + rs'.length * sz := by rw [Nat.add_mul, Nat.add_mul]; omega
          omega
        simp only [List.map_cons, Instr.fill, cellsS_den hc, hsz]
        rw [if_neg (by simp [List.size_toArray]; exact hle)]
        have e : ((denL θ cs).toArray.zipIdx.foldl (fun cs (c, j) => cs.setIfInBounds (i * sz + j) c) acc.toArray) =
            (acc.take (i * sz) ++ denL θ cs ++ acc.drop (i * sz + sz)).toArray := by
          have := foldl_sets (denL θ cs) 0 (i * sz) acc.toArray (by simp [denL_map, hcl]; exact hle)
          rw [← Array.foldl_toList]
          simp only [Array.toList_zipIdx] at *
          rw [this]
          simp [denL_map, hcl]
        have hm : (i + 1 + rs'.length) * sz = (i + (rs'.length + 1)) * sz := by congr 1; omega
        have hm2 : (i + 1) * sz = i * sz + sz := by rw [Nat.add_mul]; omega
        have hm3 : (i + (rs'.length + 1)) * sz = i * sz + sz + rs'.length * sz := by rw [Nat.add_mul, Nat.add_mul]; omega
        have hla : (acc.take (i * sz) ++ denL θ cs ++ acc.drop (i * sz + sz)).length = acc.length := by simp [denL_map, hcl]; omega
        rw [e, fill_rows sz r (i + 1) rs' _ hr (fun x hx => hs x (List.mem_cons_of_mem _ hx)) (by rw [hla, hm]; exact hl)]
        have l1 : (acc.take (i * sz) ++ denL θ cs).length = (i + 1) * sz := by simp [denL_map, hcl]; omega
        have e1 : (acc.take (i * sz) ++ denL θ cs ++ acc.drop (i * sz + sz)).take ((i + 1) * sz) = acc.take (i * sz) ++ denL θ cs := by
          rw [← l1]; exact List.take_left ..
        have e2 : (acc.take (i * sz) ++ denL θ cs ++ acc.drop (i * sz + sz)).drop ((i + 1 + rs'.length) * sz) = acc.drop ((i + (rs'.length + 1)) * sz) := by
          rw [List.drop_append, List.drop_eq_nil_of_le (by rw [l1, hm, hm3, hm2]; omega), List.nil_append, List.drop_drop, l1]
          congr 1
          omega
        rw [e1, e2]
        simp only [List.flatten_cons, List.length_cons, denL_map, List.map_append, List.append_assoc]
      · cases h
    · cases h

end

end Go.Sx
