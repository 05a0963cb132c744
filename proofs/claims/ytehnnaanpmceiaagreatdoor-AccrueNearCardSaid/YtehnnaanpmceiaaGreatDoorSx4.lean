/-
  SX, part 4: slices: literals, make, append, a store into a row, a piece.
-/
import Derived.Test.YtehnnaanpmceiaaGreatDoorSx3
import Derived.Maps.AppendAt
import Derived.Laws.AppendOwnNone
set_option linter.unusedVariables false
set_option linter.unusedSimpArgs false
namespace Go.Sx
open Go.RowKit

section
variable {P : Program} {gl : List (Nat × Vw)} {base : Nat} {θ : Th} {l : List (Option SV)} {hp : List (Option Vw)} {T : Array Value} {w : World} {run : Result Next}

theorem evParts {ds : List Deferred} (hT : TOk θ l T) : ∀ {parts : List (Nat × Operand)} {vs : List SV}, evL l (parts.map (·.2)) = some vs →
    parts.map (fun p => (p.1, (Act.mk T ds).eval p.2)) = ((parts.map (·.1)).zip vs).map fun p => (p.1, den θ p.2)
  | [], vs, h => by simp [evL] at h; subst h; rfl
  | (i, x) :: r, vs, h => by
    simp only [List.map_cons, evL] at h
    split at h
    · rename_i v vs' h1 h2
      cases h
      simp only [List.map_cons, List.zip_cons_cons, ev_den hT h1, evParts hT h2]
    · cases h

theorem lit_new {o : Oper} {ds : List Deferred} {t el n sz : Nat} {i : TypeInfo} {z : Value} {parts : Array (Nat × Operand)} {vs : List SV} {rows : List (List SV)} {f : Nat → List SV}
    {θ : Th} (hT0 : TOk θ l T)
    (ho : o.op = .buildSlice t n parts) (hu : P.underlying t = some (.slice el)) (hi : P.info? el = some i) (hz : i.zero = some z) (hzs : z.cells.size = i.size) (hsz : i.size = sz) (hn : 0 < sz) (hn2 : n * sz ≤ 16777216)
    (hv : evL l (parts.toList.map (·.2)) = some vs) (hr : rowsOf 0 ((parts.toList.map (·.1)).zip vs) = some rows) (hl : rows.length = n) (hall : rows.all (fun r => r.length == sz && r.all one) = true) (hf : ∀ i, i < n → f i = rows.getD i []) :
    NewRun base l hp T w ((execOp (Act.mk T ds).eval o).run P w) (.sl hp.length n) (.row true el n sz f) := by
  have hs1 : ∀ r ∈ rows, r.length = sz := fun r hr => by have := List.all_eq_true.1 hall r hr; simp at this; exact this.1
  have hs2 : ∀ r ∈ rows, r.all one = true := fun r hr => by have := List.all_eq_true.1 hall r hr; simp only [Bool.and_eq_true] at this; exact this.2
  have htot : ∀ θ', (denL θ' rows.flatten).length = n * sz := fun θ' => by
    rw [denL_map, List.length_map, List.length_flatten]
    have : rows.map List.length = List.replicate n sz := by
      apply List.ext_getElem
      · simp [hl]
      · intro i h1 h2
        simp at h1 ⊢
        exact hs1 _ (List.getElem_mem _)
    rw [this]; simp
  have hrun : ∀ θ', TOk θ' l T → (execOp (Act.mk T ds).eval o).run P w = .ok (.value (.slice (some ⟨w.heap.size, 0, none⟩) n n)) (w.alloc (.cells (denL θ' rows.flatten).toArray el)) := fun θ' hT => by
    have hfill := fill_rows (θ := θ') sz ((parts.toList.map (·.1)).zip vs) 0 rows ((Array.range (n * sz)).map (z.cells[· % z.cells.size]!)).toList hr hs1 (by simp [hl])
    simp only [Nat.zero_mul, List.take_zero, List.nil_append, Nat.zero_add, hl] at hfill
    rw [List.drop_eq_nil_of_le (by simp), List.append_nil] at hfill
    have hp1 := evParts (ds := ds) hT hv
    have hn3 : ¬ (n * sz > 2 ^ 24) := by omega
    have hpa : (parts.map fun x => (x.1, (Act.mk T ds).eval x.2)).toList = ((parts.toList.map (·.1)).zip vs).map fun p => (p.1, den θ' p.2) := by
      rw [Array.toList_map]; exact hp1
    simp only [execOp, ho, Instr.buildSlice, Sem.run_bind, run_underlying' hu, Result.andThen_ok, sizeOf, typeInfo, run_program, hi, Sem.run_pure, hsz, hn3, if_false]
    rw [Array.toArray_toList] at hfill
    by_cases hn4 : n * sz = 0
    · have hz0 : ∀ g : Nat → Value, (Array.range (n * sz)).map g = #[] := fun g => by rw [hn4]; simp
      rw [hz0] at hfill
      simp only [hn4, if_true, Sem.run_bind, Sem.run_pure, Result.andThen_ok]
      rw [hpa]
      have hz1 : ∀ g : Nat → Value, (Array.range 0).map g = #[] := fun g => by simp
      rw [hz1]
      rw [hfill]
      rfl
    · simp only [hn4, if_false, zeroValue, Sem.run_bind, run_program, typeInfo, hi, hz, Sem.run_pure, Result.andThen_ok]
      rw [hpa]
      rw [hfill]
      rfl
  refine ⟨.slice (some ⟨w.heap.size, 0, none⟩) n n, w.alloc (.cells (denL θ rows.flatten).toArray el), ⟨some ⟨w.heap.size, 0, none⟩, n, sz⟩, hrun θ hT0, below_alloc_self _ _, fun a ha => by cases ha; exact Nat.le_refl _, fun θ' hh ht hd => ⟨by simp [den, hd], ?_⟩⟩
  have h1 := hrun θ hT0
  rw [hrun θ' ht] at h1
  injection h1 with _ h1
  rw [← h1]
  exact newSlice_ok (Nat.le_refl _) hl hs1 hs2 hf (by have : n ≤ n * sz := Nat.le_mul_of_pos_right _ hn; unfold maxLen; omega)

theorem make_new {o : Oper} {ds : List Deferred} {t el sz : Nat} {i : TypeInfo} {z : Value} {x y : Operand} {k k' : IntKind} {n : Int} {θ : Th} (hT0 : TOk θ l T)
    (ho : o.op = .makeSlice t x y) (hu : P.underlying t = some (.slice el)) (hi : P.info? el = some i) (hz : i.zero = some z) (hzs : z.cells.size = i.size) (hsz : i.size = sz) (h0 : 0 < sz)
    (hx : ev l x = some (.val (.int k n))) (hy : ev l y = some (.val (.int k' n))) (hall : (z.cells.toList.map SV.val).all one = true) (hn0 : 0 ≤ n) (hb : (i.bytes : Int) * n ≤ 281474976710656) (h63 : n ≤ 9223372036854775807) :
    NewRun base l hp T w ((execOp (Act.mk T ds).eval o).run P w) (.sl hp.length n.toNat) (.row true el n.toNat sz (fun _ => z.cells.toList.map .val)) := by
  subst hsz
  have hrun := fun θ' (hT : TOk θ' l T) => run_make (P := P) (w := w) t el i z hu hi hz k k' n n hn0 (Int.le_refl _) hb h63
  refine ⟨.slice (some ⟨w.heap.size, 0, none⟩) n.toNat n.toNat, w.alloc (.cells (madeCells z.cells (n.toNat * i.size)) el), ⟨some ⟨w.heap.size, 0, none⟩, n.toNat, i.size⟩, ?_, below_alloc_self _ _, fun a ha => by cases ha; exact Nat.le_refl _, fun θ' hh ht hd => ⟨by simp [den, hd], ?_⟩⟩
  · have hT := hT0
    simp only [execOp, ho, ev_den hT hx, ev_den hT hy, den, Sem.run_bind, hrun θ hT, Result.andThen_ok, Sem.run_pure]
  · refine ⟨rfl, Nat.le_refl _, ⟨.inr ⟨_, rfl⟩, fun a ha => by cases ha; rfl⟩, fun j hj => ⟨by simpa using hzs, hall⟩, fun a ha j hj => ?_, fun _ => .inr ⟨w.heap.size, _, rfl, Nat.le_refl _, by show (w.heap.push _)[w.heap.size]? = _; simp; rfl, by simp [madeCells], by show n.toNat ≤ maxLen; unfold maxLen; omega⟩⟩
    cases ha
    intro q v hq
    have hqz : q < i.size := by have := (List.getElem?_eq_some_iff.1 hq).1; simpa [hzs] using this
    have hlt : j * i.size + q < n.toNat * i.size := by
      have : (j + 1) * i.size ≤ n.toNat * i.size := Nat.mul_le_mul_right _ hj
      rw [Nat.add_mul] at this
      omega
    show World.cell? _ ⟨w.heap.size, 0 + (j * i.size + q), none⟩ = _
    rw [Nat.zero_add, World.cell?_alloc_new]
    have hmod : (j * i.size + q) % z.cells.size = q := by rw [hzs, Nat.add_comm, Nat.add_mul_mod_self_right, Nat.mod_eq_of_lt hqz]
    rw [List.getElem?_map] at hq
    cases hc : z.cells.toList[q]? with
    | none => simp [hc] at hq
    | some u =>
      simp [hc] at hq
      subst hq
      have hc' : z.cells[q]? = some u := by simpa using hc
      simp [madeCells, hlt, hmod, den]
      rw [Array.getElem!_eq_getD, Array.getD_eq_getD_getElem?, hc']
      rfl

/-- A view of the call's own goes, another comes in a block that was its own or is new. -/
theorem HpOk.turn {w' : World} {t : Nat} {v v' : Vw} {d : Ad} (h : HpOk θ base hp w) (ht : hp[t]? = some (some v)) (ho : v.own = true) (hg : ∀ k, k < w.heap.size → (∀ a, (θ t).base = some a → a.block ≠ k) → w'.heap[k]? = w.heap[k]?)
    (hd : θ hp.length = d) (hv : VwOk θ base w' d v') (hnew : ∀ a, d.base = some a → w.heap.size ≤ a.block ∨ ∃ a', (θ t).base = some a' ∧ a'.block = a.block) :
    HpOk θ base (hp.set t none ++ [some v']) w' := by
  have htl : t < hp.length := (List.getElem?_eq_some_iff.1 ht).1
  have key : ∀ s x, (hp.set t none ++ [some v'])[s]? = some (some x) → (hp[s]? = some (some x) ∧ s ≠ t ∧ s < hp.length) ∨ (s = hp.length ∧ x = v') := by
    intro s x hs
    rw [List.getElem?_append] at hs
    split at hs
    · rename_i hlt
      rw [List.getElem?_set] at hs
      split at hs
      · rename_i he; subst he; simp [htl] at hs
      · rename_i he; exact .inl ⟨hs, fun e => he e.symm, by simpa using hlt⟩
    · rename_i hge
      simp only [List.length_set] at hs hge
      rw [List.getElem?_cons] at hs
      split at hs
      · exact .inr ⟨by omega, by simpa using hs.symm⟩
      · simp at hs
  have hkeep : ∀ s x, hp[s]? = some (some x) → s ≠ t → VwOk θ base w' (θ s) x := fun s x hs hne => by
    have hx := h.vw s x hs
    have hL : ∀ {a : Addr} {j : Nat} {cs : List SV}, (x.own = true ∨ x.live) → (θ s).base = some a → Lies θ w a j cs → Lies θ w' a j cs := fun {a} {j} {cs} hl ha hlie k v hk => by
      have hlt := World.block_lt_of_cell? w _ (hlie k v hk)
      rw [← hlie k v hk]
      exact World.cell?_of_block (hg _ hlt (fun a' ha' => h.ne t s _ x ht hs (fun e => hne e.symm) ho hl a' a ha' ha))
    have hB : ∀ {b : Nat} {y : Obj}, x.own = true → (θ s).base = some ⟨b, 0, none⟩ → w.heap[b]? = some y → w'.heap[b]? = some y := fun hl ha hb => by
      rw [hg _ (Array.getElem?_eq_some_iff.1 hb).1 (fun a' ha' => h.ne t s _ x ht hs (fun e => hne e.symm) ho (.inl hl) a' _ ha' ha)]
      exact hb
    cases x with
    | box o cs =>
      refine ⟨fun hn => ?_, fun ho' => ?_⟩
      · obtain ⟨a, ha, hlie⟩ := hx.1 hn; exact ⟨a, ha, hL (.inr hn) ha hlie⟩
      · obtain ⟨b, h1, h2, c, el, h3, h4⟩ := hx.2 ho'; exact ⟨b, h1, h2, c, el, hB ho' h1 h3, h4⟩
    | row o el n sz f =>
      obtain ⟨h1, h2, h3, hf, h4, h5⟩ := hx
      refine ⟨h1, h2, h3, hf, fun a ha i hi => ?_, fun ho' => ?_⟩
      · rcases Nat.eq_zero_or_pos sz with h0 | h0
        · have := (hf i hi).1
          rw [h0] at this
          rw [List.length_eq_zero_iff.1 this]
          intro k v hk; simp at hk
        · exact hL (.inr ⟨by omega, h0⟩) ha (h4 a ha i hi)
      · rcases h5 ho' with h | ⟨b, c, e1, e2, e3, e4⟩
        · exact .inl h
        · exact .inr ⟨b, c, e1, e2, hB ho' e1 e3, e4⟩
    | map o k v f st =>
      obtain ⟨b, h1, h2, es, c, h3, h4⟩ := hx
      exact ⟨b, h1, h2, es, c, by rw [hg _ (Array.getElem?_eq_some_iff.1 h3).1 (fun a' ha' => h.ne t s _ _ ht hs (fun e => hne e.symm) ho (.inr trivial) a' _ ha' h1)]; exact h3, h4⟩
  refine ⟨fun s x hs => ?_, fun s s' x x' hs hs' hne hx hl c c' hc hc' => ?_⟩
  · rcases key s x hs with ⟨h1, h2, -⟩ | ⟨rfl, rfl⟩
    · exact hkeep s x h1 h2
    · rw [hd]; exact hv
  · rcases key s x hs with ⟨h1, h2, -⟩ | ⟨rfl, rfl⟩ <;> rcases key s' x' hs' with ⟨h3, h4, -⟩ | ⟨rfl, rfl⟩
    · exact h.ne s s' x x' h1 h3 hne hx hl c c' hc hc'
    · rw [hd] at hc'
      rcases hnew c' hc' with h5 | ⟨a', h5, h6⟩
      · have := (h.vw s x h1).lt hc (.inl hx); omega
      · rw [← h6]; exact h.ne s t x v h1 ht h2 hx (.inl ho) c a' hc h5
    · rw [hd] at hc
      rcases hnew c hc with h5 | ⟨a', h5, h6⟩
      · have := (h.vw s' x' h3).lt hc' hl; omega
      · rw [← h6]; exact h.ne t s' v x' ht h3 (fun e => h4 e.symm) ho hl a' c' h5 hc'
    · exact absurd rfl hne

theorem row_get {c : List Value} {n sz : Nat} {f : Nat → List SV} (h : ∀ i, i < n → (f i).length = sz ∧ ∀ (k : Nat) (v : SV), (f i)[k]? = some v → c[i * sz + k]? = some (den θ v)) (i k : Nat) (v : SV) (hi : i < n) (hk : (f i)[k]? = some v) :
    (c.take (n * sz))[i * sz + k]? = some (den θ v) := by
  have hksz : k < sz := by have := (List.getElem?_eq_some_iff.1 hk).1; rw [(h i hi).1] at this; exact this
  rw [List.getElem?_take, if_pos (by have : (i + 1) * sz ≤ n * sz := Nat.mul_le_mul_right _ hi
                                     rw [Nat.add_mul] at this; omega)]
  exact (h i hi).2 k v hk

/-- An append's operands and laws. -/
structure AppSrc (P : Program) (t el sz : Nat) (bytes : Nat) : Prop where
  u : P.underlying t = some (.slice el)
  info : ∃ i z, P.info? el = some i ∧ i.zero = some z ∧ i.size = sz ∧ i.bytes = bytes ∧ z.cells.size = sz
  pos : 0 < sz

theorem run_append_none' (base : Nat) (t ty e : TypeId) (i : TypeInfo) (size : Nat) (ht : P.underlying t = some (.slice e)) (hi : P.info? e = some i)
    (v : Value) (n : Nat) (xs : List Value) (hown : w.ownsRow base e size v n xs) (c : Nat) :
    (Builtin.append_ #[t, t] ty #[v, .slice none 0 c]).run P w = .ok v w := by
  rcases hown.2 with ⟨rfl, rfl⟩ | ⟨g, cap, cur, rfl, _, _, hnc, _⟩
  · simp [Builtin.append_, run_underlying ht, sizeOf, typeInfo, hi, Builtin.lenOf, Builtin.firstCells]
  · simp [Builtin.append_, run_underlying ht, sizeOf, typeInfo, hi, Builtin.lenOf, Builtin.firstCells, hnc, storeCells]

theorem app_core {t el sz bytes n m : Nat} {ty : TypeId} {f f' f'' : Nat → List SV} {d dx : Ad} {own : Bool} {elx : TypeId} (hA : AppSrc P t el sz bytes) (hsz : base ≤ w.heap.size)
    (h1 : VwOk θ base w d (.row true el n sz f)) (h2 : VwOk θ base w dx (.row own elx m sz f')) (hb : (n + m) * bytes ≤ 140737488355328) (hm : n + m ≤ maxLen) :
    ∃ v' w' d', (Builtin.append_ #[t, t] ty #[.slice d.base n d.cap, .slice dx.base m dx.cap]).run P w = .ok v' w' ∧ v' = .slice d'.base (n + m) d'.cap ∧ Below base w w' ∧
      (∀ k, k < w.heap.size → (∀ a, d.base = some a → a.block ≠ k) → w'.heap[k]? = w.heap[k]?) ∧ (∀ a, d'.base = some a → w.heap.size ≤ a.block ∨ ∃ a', d.base = some a' ∧ a'.block = a.block) ∧
      (∀ θ', VwOk θ' base w d (.row true el n sz f) → VwOk θ' base w dx (.row own elx m sz f') → (∀ i, i < n + m → f'' i = if i < n then f i else f' (i - n)) → VwOk θ' base w' d' (.row true el (n + m) sz f'')) := by
  obtain ⟨i, z, hi, hz, hisz, hby, hzs⟩ := hA.info
  obtain ⟨g1, g2, g3, g4, g5, g6⟩ := h1
  have hown : ∃ xs, w.ownsRow base el sz (.slice d.base n d.cap) n xs ∧ ∀ θ', VwOk θ' base w d (.row true el n sz f) → ∀ (i k : Nat) (v : SV), i < n → (f i)[k]? = some v → xs[i * sz + k]? = some (den θ' v) := by
    rcases g6 rfl with ⟨hb0, hc0⟩ | ⟨b, c, e1, e2, e3, e4, e5⟩
    · have hn0 : n = 0 := by omega
      subst hn0
      exact ⟨[], by rw [hb0, hc0]; exact World.ownsRow_nil w base el sz, fun _ _ i k v hlt => by omega⟩
    · refine ⟨c.toList.take (n * sz), ⟨by rw [List.length_take, Array.length_toList, e4]; exact Nat.min_eq_left (Nat.mul_le_mul_right _ g2), .inr ⟨b, d.cap, c, by rw [e1], e2, e3, g2, e5, e4, rfl⟩⟩, fun θ' hv i k v hlt hk => ?_⟩
      obtain ⟨-, -, -, k4, k5, -⟩ := hv
      refine row_get (f := f) (fun i hi => ⟨(k4 i hi).1, fun k v hk => ?_⟩) i k v hlt hk
      have := k5 _ e1 i hi k v hk
      simp only [at_, Nat.zero_add, World.cell?, e3] at this
      simpa using this
  obtain ⟨xs, hown, hxs⟩ := hown
  have hxl : xs.length = n * sz := hown.1
  obtain ⟨x1, x2, x3, x4, x5, x6⟩ := h2
  have hfin : ∀ (v' : Value) (w' : World) (news : List Value), news.length = m * sz → w'.ownsRow base el sz v' (n + m) (xs ++ news) → w.grownBy w' (Value.slice d.base n d.cap).ownBlock →
      (v'.ownBlock = (Value.slice d.base n d.cap).ownBlock ∨ v'.ownBlock = some w.heap.size) →
      (∀ θ', VwOk θ' base w dx (.row own elx m sz f') → ∀ (i k : Nat) (v : SV), i < m → (f' i)[k]? = some v → news[i * sz + k]? = some (den θ' v)) →
      ∃ d' : Ad, v' = .slice d'.base (n + m) d'.cap ∧ Below base w w' ∧
      (∀ k, k < w.heap.size → (∀ a, d.base = some a → a.block ≠ k) → w'.heap[k]? = w.heap[k]?) ∧ (∀ a, d'.base = some a → w.heap.size ≤ a.block ∨ ∃ a', d.base = some a' ∧ a'.block = a.block) ∧
      (∀ θ', VwOk θ' base w d (.row true el n sz f) → VwOk θ' base w dx (.row own elx m sz f') → (∀ i, i < n + m → f'' i = if i < n then f i else f' (i - n)) → VwOk θ' base w' d' (.row true el (n + m) sz f'')) := by
    intro v' w' news hnl hown' hgrow hblk hnews
    have hbel : Below base w w' := (Below.refl base w).grown hgrow hsz (fun k hk => by
      cases hdb : d.base with
      | none => simp [Value.ownBlock, hdb] at hk
      | some a =>
        simp [Value.ownBlock, hdb] at hk
        rcases g6 rfl with ⟨hb0, -⟩ | ⟨b, c, e1, e2, -⟩
        · rw [hb0] at hdb; cases hdb
        · rw [e1] at hdb; cases hdb; simp at hk; omega)
    have hkeep : ∀ k, k < w.heap.size → (∀ a, d.base = some a → a.block ≠ k) → w'.heap[k]? = w.heap[k]? := fun k hk hne => hgrow.block k hk (fun e => by
      cases hdb : d.base with
      | none => simp [Value.ownBlock, hdb] at e
      | some a => simp [Value.ownBlock, hdb] at e; exact hne a hdb e.symm)
    have hrow : ∀ θ', VwOk θ' base w d (.row true el n sz f) → VwOk θ' base w dx (.row own elx m sz f') → (∀ i, i < n + m → f'' i = if i < n then f i else f' (i - n)) →
        (∀ i, i < n + m → (f'' i).length = sz ∧ (f'' i).all one = true) ∧ ∀ (i k : Nat) (v : SV), i < n + m → (f'' i)[k]? = some v → (xs ++ news)[i * sz + k]? = some (den θ' v) := by
      intro θ' hv1 hv2 hf
      have hv1' := hv1
      obtain ⟨-, -, -, k4, -, -⟩ := hv1
      have hv2' := hv2
      obtain ⟨-, -, -, l4, -, -⟩ := hv2
      have hfl : ∀ i, i < n + m → (f'' i).length = sz ∧ (f'' i).all one = true := fun i hi => by
        rw [hf i hi]
        split
        · rename_i hlt; exact k4 i hlt
        · rename_i hge; exact l4 (i - n) (by omega)
      refine ⟨hfl, fun i k v hi hk => ?_⟩
      have hksz : k < sz := by have := (List.getElem?_eq_some_iff.1 hk).1; rw [(hfl i hi).1] at this; exact this
      rw [hf i hi] at hk
      split at hk
      · rename_i hlt
        have : (i + 1) * sz ≤ n * sz := Nat.mul_le_mul_right _ hlt
        rw [Nat.add_mul] at this
        rw [List.getElem?_append_left (by omega)]
        exact hxs θ' hv1' i k v hlt hk
      · rename_i hge
        have hge' : n * sz ≤ i * sz := Nat.mul_le_mul_right _ (by omega)
        rw [List.getElem?_append_right (by omega), hxl]
        have := hnews θ' hv2' (i - n) k v (by omega) hk
        rw [Nat.sub_mul] at this
        rw [show i * sz + k - n * sz = i * sz - n * sz + k by omega]
        exact this
    rcases hown'.2 with ⟨rfl, hnm⟩ | ⟨g, cap, cur, rfl, q1, q2, q3, q4, q5, q6⟩
    · refine ⟨⟨none, 0, sz⟩, by rw [hnm], hbel, hkeep, fun a ha => (by cases ha), fun θ' hv1 hv2 hf => ⟨rfl, by show n + m ≤ 0; omega, ⟨.inl hnm, fun a ha => (by cases ha)⟩, (hrow θ' hv1 hv2 hf).1, fun a ha => (by cases ha), fun _ => .inl ⟨rfl, rfl⟩⟩⟩
    · refine ⟨⟨some ⟨g, 0, none⟩, cap, sz⟩, rfl, hbel, hkeep, fun a ha => ?_, fun θ' hv1 hv2 hf => ⟨rfl, q3, ⟨.inr ⟨_, rfl⟩, fun a ha => by cases ha; rfl⟩, (hrow θ' hv1 hv2 hf).1, fun a ha i hi k v hk => ?_, fun _ => .inr ⟨g, cur, rfl, q1, q2, q5, q4⟩⟩⟩
      · cases ha
        simp only [Value.ownBlock] at hblk
        rcases hblk with hblk | hblk
        · cases hdb : d.base with
          | none => simp [hdb] at hblk
          | some a' => simp [hdb] at hblk; exact .inr ⟨a', rfl, hblk.symm⟩
        · simp at hblk; exact .inl (by simp; omega)
      · cases ha
        have := (hrow θ' hv1 hv2 hf).2 i k v hi hk
        rw [← q6] at this
        show World.cell? _ ⟨g, 0 + (i * sz + k), none⟩ = _
        rw [Nat.zero_add]
        simp only [World.cell?, q2]
        have h2 : cur.toList[i * sz + k]? = some (den θ' v) := by
          rw [List.getElem?_take] at this
          split at this
          · exact this
          · cases this
        simpa using h2
  cases hxb : dx.base with
  | none =>
    have hm0 : m = 0 := by
      rcases x3.1 with h | ⟨a, ha⟩
      · exact h
      · rw [hxb] at ha; cases ha
    subst hm0
    have hr := run_append_none' (P := P) (w := w) base t ty el i sz hA.u hi (.slice d.base n d.cap) n xs hown dx.cap
    obtain ⟨d', q⟩ := hfin _ w [] (by simp) (by simpa using hown) ⟨rfl, rfl, rfl, Nat.le_refl _, fun _ _ _ => rfl⟩ (.inl rfl) (fun _ _ i k v hlt => by omega)
    exact ⟨_, w, d', hr, q⟩
  | some a =>
    have hcell : ∀ j, j < m * sz → ∃ u, w.cell? (at_ a j) = some u ∧ u.oneCell' = true := fun j hj => by
      have hi' : j / sz < m := Nat.div_lt_of_lt_mul (by rw [Nat.mul_comm]; exact hj)
      have hk : j % sz < sz := Nat.mod_lt _ hA.pos
      have hlen := (x4 (j / sz) hi').1
      have hx : (f' (j / sz))[j % sz]? = some ((f' (j / sz))[j % sz]'(by rw [hlen]; exact hk)) := List.getElem?_eq_getElem _
      have := x5 a hxb (j / sz) hi' _ _ hx
      rw [show j / sz * sz + j % sz = j by rw [Nat.mul_comm]; exact Nat.div_add_mod j sz] at this
      exact ⟨_, this, one_den (List.all_eq_true.1 (x4 (j / sz) hi').2 _ (List.getElem_mem _))⟩
    have hspot : ∀ j, j < m * sz → w.cell? (a.add j) = w.cell? (at_ a j) := fun j hj => by
      unfold Addr.add at_
      split
      · rename_i h0
        subst h0
        obtain ⟨u, hu, -⟩ := hcell 0 hj
        have hs := x3.2 a hxb
        cases a; simp_all
      · rfl
    obtain ⟨v', w', hr, ho', hg', -, hb'⟩ := run_append_own_at (P := P) (w := w) base t ty el i z sz bytes hA.u hi hz hisz hby hzs hA.pos (.slice d.base n d.cap) n xs hown a m dx.cap
      ((List.range (m * sz)).map fun j => (w.cell? (at_ a j)).getD undef) (by simp) (fun j u hj => by
        rw [List.getElem?_map] at hj
        cases hjr : (List.range (m * sz))[j]? with
        | none => simp [hjr] at hj
        | some j' =>
          obtain ⟨hlt, e⟩ := List.getElem?_eq_some_iff.1 hjr
          simp at e; subst e
          simp [hjr] at hj
          have hlt' : j < m * sz := by simpa using hlt
          rw [hspot j hlt']
          obtain ⟨u', hu', -⟩ := hcell j hlt'
          rw [hu'] at hj ⊢
          simpa using hj) (fun u hu => by
        rw [List.mem_map] at hu
        obtain ⟨j, hj, rfl⟩ := hu
        obtain ⟨u', hu', h1⟩ := hcell j (by simpa using hj)
        rw [hu']; exact h1) hm hb hsz
    obtain ⟨d', q⟩ := hfin v' w' _ (by simp) ho' hg' hb' (fun θ' hv2 i k v hi hk => by
      obtain ⟨-, -, -, l4, l5, -⟩ := hv2
      have hksz : k < sz := by have := (List.getElem?_eq_some_iff.1 hk).1; rw [(l4 i hi).1] at this; exact this
      have hlt : i * sz + k < m * sz := by
        have : (i + 1) * sz ≤ m * sz := Nat.mul_le_mul_right _ hi
        rw [Nat.add_mul] at this
        omega
      rw [List.getElem?_map, List.getElem?_range hlt]
      simp [l5 a hxb i hi k v hk])
    exact ⟨v', w', d', hr, q⟩

end

end Go.Sx
