/-
  SX, part 6: every operation.
-/
import Derived.Test.YtehnnaanpmceiaaGreatDoorSx5
set_option linter.unusedVariables false
set_option linter.unusedSimpArgs false
namespace Go.Sx
open Go.RowKit

def putRow (cs : List SV) (j : Nat) (v : List SV) : List SV := cs.take j ++ v ++ cs.drop (j + v.length)

def sxOp (P : Program) (gl : List (Nat × Vw)) (l : List (Option SV)) (hp : List (Option Vw)) (hs : List Hint) (o : Op) : Option (List Prop × List Hint × Ef) :=
  match o with
  | .alloc e => match P.info? e with
    | some i => match i.zero with
      | some z => some ([], hs, .val (.ptr hp.length 0) (hp ++ [some (.box true (z.cells.toList.map .val))]))
      | none => none
    | none => none
  | .box _ x => match ev l x with
    | some v => match cellsS v with
      | some cs => some ([], hs, .val (.ptr hp.length 0) (hp ++ [some (.box true cs)]))
      | none => none
    | none => none
  | .store t p x => match ev l p, ev l x, szOf P t with
    | some (.ptr tg j), some v, some n => match getV hp tg, cellsS v with
      | some (.box true cs), some vcs => if n == vcs.length && vcs.all one && decide (j + vcs.length ≤ cs.length) then
          some ([], hs, .skip (hp.set tg (some (.box true (putRow cs j vcs))))) else none
      | _, _ => none
    | some (.rptr tg i j), some v, some n => match getV hp tg, cellsS v, hs with
      | some (.row true el m sz f), some vcs, .row f' :: hs => if n == vcs.length && vcs.all one && decide (j + vcs.length ≤ sz) then
          some ([0 ≤ i ∧ i < (m : Int), ∀ k, k < m → f' k = if k = i.toNat then putRow (f k) j vcs else f k], hs, .skip (hp.set tg (some (.row true el m sz f')))) else none
      | _, _, _ => none
    | _, _, _ => none
  | .buildSlice t n parts => match P.underlying t, evL l (parts.toList.map (·.2)) with
    | some (.slice el), some vs => match P.info? el, rowsOf 0 ((parts.toList.map (·.1)).zip vs) with
      | some i, some rows => match i.zero, hs with
        | some z, .row f :: hs => if z.cells.size == i.size && decide (0 < i.size) && decide (n * i.size ≤ 16777216) && rows.length == n && rows.all (fun r => r.length == i.size && r.all one) then
            some ([∀ k, k < n → f k = rows.getD k []], hs, .val (.sl hp.length n) (hp ++ [some (.row true el n i.size f)])) else none
        | _, _ => none
      | _, _ => none
    | _, _ => none
  | .makeSlice t x y => match P.underlying t, ev l x, ev l y with
    | some (.slice el), some (.val (.int k n)), some (.val (.int k' n')) => match P.info? el with
      | some i => match i.zero with
        | some z => if z.cells.size == i.size && decide (0 < i.size) && (z.cells.toList.map SV.val).all one then
            some ([n = n', 0 ≤ n, (i.bytes : Int) * n ≤ 281474976710656, n ≤ 9223372036854775807], hs, .val (.sl hp.length n.toNat) (hp ++ [some (.row true el n.toNat i.size (fun _ => z.cells.toList.map .val))])) else none
        | none => none
      | none => none
    | _, _, _ => none
  | .makeMap t none => match P.underlying t with
    | some (.map kt et) => match P.underlying kt, zeroK P et with
      | some (.int k), some v => some ([], hs, .val (.mp hp.length) (hp ++ [some (.map true k v (fun _ => 0) [])]))
      | _, _ => none
    | _ => none
  | .mapUpdate t m y x => match P.underlying t, ev l m, ev l y, ev l x with
    | some (.map kt et), some (.mp tg), some (.val (.int k' a)), some (.val (.int v' x)) => match getV hp tg, P.underlying kt with
      | some (.map true k v f st), some (.int k'') => if k == k' && k == k'' && v == v' then some ([], hs, .skip (hp.set tg (some (.map true k v (fun a' => if a' = a then x else f a') [])))) else none
      | _, _ => none
    | _, _, _, _ => none
  | .entryStore t m s x => match ev l m, ev l s, ev l x with
    | some (.mp tg), some (.val (.int .i64 s)), some (.val (.int v' x)) => match getV hp tg with
      | some (.map true k v f ((s', a) :: st)) => if v == v' then some ([s = s'], hs, .skip (hp.set tg (some (.map true k v (fun a' => if a' = a then x else f a') [])))) else none
      | _ => none
    | _, _, _ => none
  | .slice t x lo hi none => match P.underlying t, ev l x with
    | some (.slice el), some (.sl tg n) => match getV hp tg, szOf P el, (match lo with | some a => ev l a | none => some (.val (.int .i64 0))), (match hi with | some a => ev l a | none => some (.val (.int .i64 (n : Int)))) with
      | some (.row o el' m sz f), some s, some (.val (.int _ a)), some (.val (.int _ b)) => if s == sz then
          some ([m = n, 0 ≤ b ∧ b ≤ (n : Int), 0 ≤ a ∧ a ≤ b], hs, .val (.sl hp.length (b.toNat - a.toNat)) (hp.set tg (some (.row false el' m sz f)) ++ [some (.row false el' (b.toNat - a.toNat) sz (fun k => f (k + a.toNat)))])) else none
      | _, _, _, _ => none
    | _, _ => (sxV P gl l hp hs (.slice t x lo hi none)).map fun (ps, hs, v) => (ps, hs, .val v hp)
  | .call ⟨.value f, args, ats⟩ => match ev l f, evL l args.toList, hs with
    | _, _, .ext _ :: _ => (sxV P gl l hp hs (.call ⟨.value f, args, ats⟩)).map fun (ps, hs, v) => (ps, hs, .val v hp)
    | some (.fn (.func g) first captured), some as, hs => match P.funcs[g]? with
      | some fn => if fn.body.isSome && fn.name != "runtime.NumGoroutine" then some ([], hs, .enter g (first ++ as ++ captured)) else none
      | none => none
    | _, _, _ => none
  | .call ⟨.builtin .append, args, ats⟩ => match args.toList, ats.toList with
    | [s, x], [t, t'] => match P.underlying t, ev l s, ev l x, hs with
      | some (.slice el), some sv, some (.sl tx m), .row f'' :: hs => match P.info? el, getV hp tx with
        | some i, some (.row _ _ m' sx f') => match i.zero with
          | some z => if t == t' && z.cells.size == i.size && decide (0 < i.size) && decide (1 ≤ i.bytes) && sx == i.size then match sv with
            | .sl ts n => match getV hp ts with
              | some (.row true el' n' ss f) => if el' == el && ss == i.size then
                  some ([m = m', n = n', (n + m) * i.bytes ≤ 140737488355328, ∀ k, k < n + m → f'' k = if k < n then f k else f' (k - n)], hs, .val (.sl hp.length (n + m)) (hp.set ts none ++ [some (.row true el (n + m) i.size f'')])) else none
              | _ => none
            | .val (.slice none 0 0) => some ([m = m', m * i.bytes ≤ 140737488355328, ∀ k, k < m → f'' k = f' k], hs, .val (.sl hp.length m) (hp ++ [some (.row true el m i.size f'')]))
            | _ => none else none
          | none => none
        | _, _ => none
      | _, _, _, _ => none
    | _, _ => none
  | o => (sxV P gl l hp hs o).map fun (ps, hs, v) => (ps, hs, .val v hp)

section
variable {P : Program} {gl : List (Nat × Vw)} {base : Nat} {θ : Th} {l : List (Option SV)} {hp : List (Option Vw)} {T : Array Value} {w : World} {ds : List Deferred}

theorem sxV_after {hs hs' : List Hint} {o : Oper} {ps : List Prop} {e : Ef} {A : Nat → Prop} (hI : PreA A P gl base θ l hp T w) (h : (sxV P gl l hp hs o.op).map (fun (ps, hs, v) => (ps, hs, Ef.val v hp)) = some (ps, hs', e)) (hps : AllP ps) :
    AfterA A P base θ hp w ((execOp (Act.mk T ds).eval o).run P w) e := by
  cases hx : sxV P gl l hp hs o.op with
  | none => simp [hx] at h
  | some q =>
    obtain ⟨ps', hs'', v⟩ := q
    simp only [hx, Option.map_some, Option.some.injEq, Prod.mk.injEq] at h
    obtain ⟨rfl, -, rfl⟩ := h
    exact After.simple hI (fun θ' hh hT => sxV_run hx hps hI.gok hh hT)

theorem store_row_after {o : Oper} {ty : TypeId} {p x : Operand} {t el m sz j : Nat} {i : Int} {v : SV} {vcs : List SV} {f f' : Nat → List SV} {A : Nat → Prop} (hI : PreA A P gl base θ l hp T w) (ho : o.op = .store ty p x) (hp' : ev l p = some (.rptr t i j)) (hv : ev l x = some v)
    (ht : getV hp t = some (.row true el m sz f)) (hsz : szOf P ty = some vcs.length) (hc : cellsS v = some vcs) (h1 : vcs.all one = true) (hle : j + vcs.length ≤ sz) (hi : 0 ≤ i ∧ i < (m : Int))
    (hf : ∀ k, k < m → f' k = if k = i.toNat then putRow (f k) j vcs else f k) :
    AfterA A P base θ hp w ((execOp (Act.mk T ds).eval o).run P w) (.skip (hp.set t (some (.row true el m sz f')))) := by
  refine After.of_skip hI (by simp) (fun θ' hh hT => ?_)
  have htv := getV_some ht
  obtain ⟨g1, g2, g3, g4, g5, g6⟩ := hh.vw t _ htv
  rcases g6 rfl with ⟨hb0, hc0⟩ | ⟨b, c, hb, hbb, hg, hcs, hcm⟩
  · omega
  have hin : (i.toNat + 1) * sz ≤ m * sz := Nat.mul_le_mul_right _ (by omega)
  have hmc : m * sz ≤ (θ' t).cap * sz := Nat.mul_le_mul_right _ g2
  rw [Nat.add_mul] at hin
  have hlen : i.toNat * sz + j + vcs.length ≤ c.size := by omega
  refine ⟨w.setRow b (c.toList.take (i.toNat * sz + j) ++ denL θ' vcs ++ c.toList.drop (i.toNat * sz + j + vcs.length)).toArray, ?_, below_setRow hbb _, ?_⟩
  · have hs := run_storeVar' (P := P) (θ := θ') (ty := ty) (o := i.toNat * sz + j) hg hsz hc h1 hlen
    simp only [execOp, ho, Instr.storeAt, Sem.run_bind, ev_den hT hp', ev_den hT hv, den, hb, Option.map_some, at_, Nat.zero_add, Instr.sureAddr, Sem.run_pure, Result.andThen_ok, g1, hs]
  · refine hh.write (v' := .row true el m sz f') htv rfl rfl hb rfl (fun k hk => setRow_other w b k _ hk) ?_
    have hnew : (w.setRow b (c.toList.take (i.toNat * sz + j) ++ denL θ' vcs ++ c.toList.drop (i.toNat * sz + j + vcs.length)).toArray).heap[b]? = some (.cells (c.toList.take (i.toNat * sz + j) ++ denL θ' vcs ++ c.toList.drop (i.toNat * sz + j + vcs.length)).toArray el (0, 0)) :=
      setRow_heap w b c _ el (0, 0) hg
    have hpl : ∀ k, k < m → (putRow (f k) j vcs).length = sz := fun k hk => by
      unfold putRow
      have := (g4 k hk).1
      simp [this]; omega
    refine ⟨g1, g2, g3, fun k hk => ?_, fun a ha k hk q u hq => ?_, fun _ => .inr ⟨b, _, hb, hbb, hnew, by simp [denL_map, hcs]; omega, hcm⟩⟩
    · rw [hf k hk]
      split
      · refine ⟨hpl k hk, ?_⟩
        unfold putRow
        have := (g4 k hk).2
        simp only [List.all_append, Bool.and_eq_true]
        exact ⟨⟨List.all_eq_true.2 (fun x hx => List.all_eq_true.1 this x (List.mem_of_mem_take hx)), h1⟩, List.all_eq_true.2 (fun x hx => List.all_eq_true.1 this x (List.mem_of_mem_drop hx))⟩
      · exact g4 k hk
    · rw [hb] at ha; cases ha
      simp only [at_, Nat.zero_add, World.cell?, hnew]
      have hold : ∀ q' u', (f k)[q']? = some u' → c.toList[k * sz + q']? = some (den θ' u') := fun q' u' h' => by
        have := g5 _ hb k hk q' u' h'
        simp only [at_, Nat.zero_add, World.cell?, hg] at this
        simpa using this
      have hfk := (g4 k hk).1
      rw [hf k hk] at hq
      have hvl : (denL θ' vcs).length = vcs.length := by simp [denL_map]
      have hcl : c.toList.length = c.size := by simp
      split at hq
      · rename_i hki
        subst hki
        unfold putRow at hq
        simp only [Option.isSome_none, Bool.false_eq_true, if_false, List.getElem?_toArray]
        show (c.toList.take (i.toNat * sz + j) ++ denL θ' vcs ++ c.toList.drop (i.toNat * sz + j + vcs.length))[i.toNat * sz + q]? = _
        by_cases hq1 : q < j
        · rw [List.append_assoc, List.getElem?_append_left (by simp; omega)] at hq
          rw [List.getElem?_take, if_pos hq1] at hq
          rw [List.append_assoc, List.getElem?_append_left (by simp; omega), List.getElem?_take, if_pos (by omega)]
          exact hold q u hq
        · by_cases hq2 : q < j + vcs.length
          · rw [List.append_assoc, List.getElem?_append_right (by simp; omega), List.getElem?_append_left (by simp; omega)] at hq
            rw [List.append_assoc, List.getElem?_append_right (by simp; omega), List.getElem?_append_left (by simp [hvl]; omega)]
            rw [denL_map, List.getElem?_map]
            rw [show i.toNat * sz + q - (c.toList.take (i.toNat * sz + j)).length = q - ((f i.toNat).take j).length by simp; omega, hq]
            rfl
          · rw [List.getElem?_append_right (by simp; omega), List.getElem?_drop] at hq
            rw [List.getElem?_append_right (by simp [hvl]; omega), List.getElem?_drop]
            have := hold _ u hq
            rw [← this]
            congr 1
            simp [hvl]; omega
      · rename_i hki
        have hql : q < sz := by have := (List.getElem?_eq_some_iff.1 hq).1; omega
        have := hold q u hq
        simp only [Option.isSome_none, Bool.false_eq_true, if_false, List.getElem?_toArray]
        show (c.toList.take (i.toNat * sz + j) ++ denL θ' vcs ++ c.toList.drop (i.toNat * sz + j + vcs.length))[k * sz + q]? = _
        rcases Nat.lt_or_gt_of_ne hki with hlt | hgt
        · have h3 : (k + 1) * sz ≤ i.toNat * sz := Nat.mul_le_mul_right _ hlt
          rw [Nat.add_mul] at h3
          rw [List.append_assoc, List.getElem?_append_left (by simp; omega), List.getElem?_take, if_pos (by omega)]
          exact this
        · have h3 : (i.toNat + 1) * sz ≤ k * sz := Nat.mul_le_mul_right _ hgt
          rw [Nat.add_mul] at h3
          rw [List.getElem?_append_right (by simp [hvl]; omega), List.getElem?_drop, ← this]
          congr 1
          simp [hvl]; omega

theorem HpOk.alias {v : Vw} {d : Ad} (h : HpOk θ base hp w) (hd : θ hp.length = d) (hv : VwOk θ base w d v) (hno : v.own = false)
    (hal : v.live → ∀ a, d.base = some a → ∃ t x a', hp[t]? = some (some x) ∧ x.own = false ∧ x.live ∧ (θ t).base = some a' ∧ a'.block = a.block) : HpOk θ base (hp ++ [some v]) w := by
  have key : ∀ t x, (hp ++ [some v])[t]? = some (some x) → (hp[t]? = some (some x) ∧ t < hp.length) ∨ (t = hp.length ∧ x = v) := by
    intro t x ht
    rw [List.getElem?_append] at ht
    split at ht
    · rename_i hlt; exact .inl ⟨ht, hlt⟩
    · rename_i hge
      rw [List.getElem?_cons] at ht
      split at ht
      · rename_i h0; exact .inr ⟨by omega, by simpa using ht.symm⟩
      · simp at ht
  refine ⟨fun t x ht => ?_, fun t t' x x' ht ht' hne ho hl a a' ha ha' => ?_⟩
  · rcases key t x ht with ⟨h1, -⟩ | ⟨rfl, rfl⟩
    · exact h.vw t x h1
    · rw [hd]; exact hv
  · rcases key t x ht with ⟨h1, h2⟩ | ⟨rfl, rfl⟩ <;> rcases key t' x' ht' with ⟨h3, h4⟩ | ⟨rfl, rfl⟩
    · exact h.ne t t' x x' h1 h3 hne ho hl a a' ha ha'
    · rw [hd] at ha'
      rcases hl with hl | hl
      · rw [hno] at hl; cases hl
      · obtain ⟨s, y, c, q1, q2, q3, q4, q5⟩ := hal hl a' ha'
        rw [← q5]
        exact h.ne t s x y h1 q1 (fun e => by subst e; rw [h1] at q1; cases q1; rw [q2] at ho; cases ho) ho (.inr q3) a c ha q4
    · rw [hno] at ho; cases ho
    · exact absurd rfl hne

theorem slice_core {o : Oper} {t el el' n sz tg : Nat} {x : Operand} {lo hi : Option Operand} {ow : Bool} {f : Nat → List SV} {k k' : IntKind} {a b : Int} {A : Nat → Prop} (hI : PreA A P gl base θ l hp T w) (ho : o.op = .slice t x lo hi none) (hu : P.underlying t = some (.slice el)) (hx : ev l x = some (.sl tg n))
    (ht : getV hp tg = some (.row ow el' n sz f)) (hsz : szOf P el = some sz) (ha : (match lo with | some a => ev l a | none => some (SV.val (.int .i64 0))) = some (.val (.int k a))) (hb : (match hi with | some a => ev l a | none => some (SV.val (.int .i64 (n : Int)))) = some (.val (.int k' b)))
    (hbn : 0 ≤ b ∧ b ≤ (n : Int)) (hab : 0 ≤ a ∧ a ≤ b) :
    ∃ r d, (execOp (Act.mk T ds).eval o).run P w = .ok (.value r) w ∧ ∀ θ', SameA A θ θ' → θ' hp.length = d → r = den θ' (.sl hp.length (b.toNat - a.toNat)) ∧ HpOk θ' base hp w ∧ θ' tg = θ tg ∧
      VwOk θ' base w (θ' hp.length) (.row false el' (b.toNat - a.toNat) sz (fun k => f (k + a.toNat))) ∧ (0 < b.toNat - a.toNat → ∀ c, (θ' hp.length).base = some c → ∃ c0, (θ tg).base = some c0 ∧ c0.block = c.block) := by
  have htv := getV_some ht
  have hrun : ∀ θ', HpOk θ' base hp w → TOk θ' l T → (execOp (Act.mk T ds).eval o).run P w = .ok (.value (.slice (if (θ' tg).cap = a.toNat then (θ' tg).base else (θ' tg).base.map (·.add (a.toNat * sz))) (b.toNat - a.toNat) ((θ' tg).cap - a.toNat))) w := fun θ' hh hT => by
    obtain ⟨g1, g2, g3, g4, g5, g6⟩ := hh.vw tg _ htv
    have hlo : ∀ W : World, (match lo.map (Act.mk T ds).eval with
        | some v => Instr.sliceBound v b.toNat .sliceB
        | none => pure 0 : Sem Nat).run P W = .ok a.toNat W := fun W => by
      cases lo with
      | none => simp at ha; obtain ⟨-, rfl⟩ := ha; simp
      | some x' => simp only [Option.map_some]; rw [ev_den hT ha]; simp only [den, Instr.sliceBound, asIntOf, Sem.run_bind, Sem.run_pure, Result.andThen_ok]; rw [if_pos ⟨hab.1, by omega⟩]; rfl
    have hhi : ∀ W : World, (match hi.map (Act.mk T ds).eval with
        | some v => Instr.sliceBound v (θ' tg).cap .sliceAcap
        | none => pure n : Sem Nat).run P W = .ok b.toNat W := fun W => by
      cases hi with
      | none => simp at hb; obtain ⟨-, rfl⟩ := hb; simp
      | some x' => simp only [Option.map_some]; rw [ev_den hT hb]; simp only [den, Instr.sliceBound, asIntOf, Sem.run_bind, Sem.run_pure, Result.andThen_ok]; rw [if_pos ⟨hbn.1, by omega⟩]; rfl
    have hbd : (Instr.sliceBounds true n (θ' tg).cap (lo.map (Act.mk T ds).eval) (hi.map (Act.mk T ds).eval) none).run P w = .ok (a.toNat, b.toNat, (θ' tg).cap) w := by
      unfold Instr.sliceBounds
      have h2 := hhi w
      have h3 := hlo w
      cases hi <;> cases lo <;> simp_all [Sem.run_bind]
    simp only [execOp, ho, ev_den hT hx, den, Instr.sliceAt, Sem.run_bind, run_underlying' hu, Result.andThen_ok, Instr.slice, Option.map_none]
    simp [hbd, run_sizeOf hsz]
  obtain ⟨hh0, hT0⟩ := hI.inv θ (SameA.refl _ _)
  refine ⟨_, ⟨if (θ tg).cap = a.toNat then (θ tg).base else (θ tg).base.map (·.add (a.toNat * sz)), (θ tg).cap - a.toNat, sz⟩, hrun θ hh0 hT0, fun θ' hs hd => ?_⟩
  have htl : tg < hp.length := (List.getElem?_eq_some_iff.1 htv).1
  have hsame : θ' tg = θ tg := hs tg (hI.kn tg _ htv)
  obtain ⟨hh, hT⟩ := hI.inv θ' hs
  obtain ⟨g1, g2, ⟨g3, g3'⟩, g4, g5, g6⟩ := hh.vw tg _ htv
  rw [hsame] at g1 g2 g3 g3' g5
  have hnew' : VwOk θ' base w (θ' hp.length) (.row false el' (b.toNat - a.toNat) sz (fun k => f (k + a.toNat))) := by
    rw [hd]
    have hbase : ∀ c, (if (θ tg).cap = a.toNat then (θ tg).base else (θ tg).base.map (·.add (a.toNat * sz))) = some c → c.spot = none ∧ (0 < b.toNat - a.toNat → ∃ c0, (θ tg).base = some c0 ∧ c = at_ c0 (a.toNat * sz)) := fun c hc => by
      split at hc
      · exact ⟨g3' c hc, fun hpos => by omega⟩
      · cases hcb : (θ tg).base with
        | none => simp [hcb] at hc
        | some c0 =>
          simp [hcb] at hc
          rw [at_add c0 (g3' c0 hcb)] at hc
          subst hc
          exact ⟨rfl, fun _ => ⟨c0, rfl, rfl⟩⟩
    refine ⟨rfl, by show b.toNat - a.toNat ≤ (θ tg).cap - a.toNat; omega, ⟨?_, fun c hc => (hbase c hc).1⟩, fun i hi => g4 _ (by omega), fun c hc i hi => ?_, fun h => by cases h⟩
    · rcases Nat.eq_zero_or_pos (b.toNat - a.toNat) with h0 | h0
      · exact .inl h0
      · refine .inr ?_
        rcases g3 with g3 | ⟨c0, hc0⟩
        · omega
        · simp only [hc0]
          split
          · exact ⟨_, rfl⟩
          · exact ⟨_, rfl⟩
    · obtain ⟨c0, hc0, rfl⟩ := (hbase c hc).2 (by omega)
      intro q u hq
      have := g5 c0 hc0 (i + a.toNat) (by omega) q u hq
      rw [← this]
      unfold at_
      simp [Nat.add_mul]
      congr 2
      omega
  refine ⟨by simp [den, hd], hh, hsame, hnew', fun hpos c hc => ?_⟩
  rcases g3 with g3 | ⟨c0, hc0⟩
  · omega
  · rw [hd] at hc
    simp only [hc0] at hc
    refine ⟨c0, hc0, ?_⟩
    split at hc
    · cases hc; rfl
    · simp only [Option.map_some, Option.some.injEq] at hc
      rw [at_add c0 (g3' c0 hc0)] at hc
      subst hc
      rfl

theorem slice_after {o : Oper} {t el el' n sz tg : Nat} {x : Operand} {lo hi : Option Operand} {ow : Bool} {f : Nat → List SV} {k k' : IntKind} {a b : Int} {A : Nat → Prop} (hI : PreA A P gl base θ l hp T w) (ho : o.op = .slice t x lo hi none) (hu : P.underlying t = some (.slice el)) (hx : ev l x = some (.sl tg n))
    (ht : getV hp tg = some (.row ow el' n sz f)) (hsz : szOf P el = some sz) (ha : (match lo with | some a => ev l a | none => some (SV.val (.int .i64 0))) = some (.val (.int k a))) (hb : (match hi with | some a => ev l a | none => some (SV.val (.int .i64 (n : Int)))) = some (.val (.int k' b)))
    (hbn : 0 ≤ b ∧ b ≤ (n : Int)) (hab : 0 ≤ a ∧ a ≤ b) :
    AfterA A P base θ hp w ((execOp (Act.mk T ds).eval o).run P w) (.val (.sl hp.length (b.toNat - a.toNat)) (hp.set tg (some (.row false el' n sz f)) ++ [some (.row false el' (b.toNat - a.toNat) sz (fun k => f (k + a.toNat)))])) := by
  have htv := getV_some ht
  obtain ⟨r, d, hr, hfin⟩ := slice_core (ds := ds) hI ho hu hx ht hsz ha hb hbn hab
  refine ⟨r, w, fun _ => d, hr, Below.refl _ _, by simp, fun θ' hs hnew => ?_⟩
  have hd := hnew 0 (by simp)
  simp only [Nat.add_zero] at hd
  obtain ⟨e1, hh, hsame, hnew', hblk⟩ := hfin θ' hs hd
  refine ⟨?_, e1⟩
  have htl : tg < hp.length := (List.getElem?_eq_some_iff.1 htv).1
  obtain ⟨g1, g2, ⟨g3, g3'⟩, g4, g5, g6⟩ := hh.vw tg _ htv
  rw [hsame] at g1 g2 g3 g3' g5
  have hh' : HpOk θ' base (hp.set tg (some (.row false el' n sz f))) w := by
    have key : ∀ s x, (hp.set tg (some (Vw.row false el' n sz f)))[s]? = some (some x) → (s ≠ tg ∧ hp[s]? = some (some x)) ∨ (s = tg ∧ x = .row false el' n sz f) := by
      intro s x hs
      rw [List.getElem?_set] at hs
      split at hs
      · rename_i he; subst he; simp [htl] at hs; exact .inr ⟨rfl, hs.symm⟩
      · rename_i he; exact .inl ⟨fun e => he e.symm, hs⟩
    refine ⟨fun s x hs => ?_, fun s s' x x' hs hs' hne hox hl c c' hc hc' => ?_⟩
    · rcases key s x hs with ⟨h1, h2⟩ | ⟨rfl, rfl⟩
      · exact hh.vw s x h2
      · rw [← hsame] at g1 g2 g3 g3' g5
        exact ⟨g1, g2, ⟨g3, g3'⟩, g4, g5, fun h => by cases h⟩
    · rcases key s x hs with ⟨h1, h2⟩ | ⟨rfl, rfl⟩ <;> rcases key s' x' hs' with ⟨h3, h4⟩ | ⟨rfl, rfl⟩
      · exact hh.ne s s' x x' h2 h4 hne hox hl c c' hc hc'
      · exact hh.ne s s' x _ h2 htv hne hox (hl.imp (fun h => by cases h) id) c c' hc hc'
      · cases hox
      · cases hox
  have hlen : (hp.set tg (some (Vw.row false el' n sz f))).length = hp.length := by simp
  refine hh'.alias (d := θ' hp.length) (by rw [hlen]) hnew' rfl (fun hlive c hc => ?_)
  obtain ⟨c0, q1, q2⟩ := hblk hlive.1 c hc
  exact ⟨tg, .row false el' n sz f, c0, by simp [htl], rfl, ⟨by have := hlive.1; omega, hlive.2⟩, by rw [hsame]; exact q1, q2⟩

theorem append_after {o : Oper} {t el n m tg tx sx : Nat} {s x : Operand} {i : TypeInfo} {z : Value} {ox : Bool} {elx : TypeId} {f f' f'' : Nat → List SV} {A : Nat → Prop} (hI : PreA A P gl base θ l hp T w)
    (ho : o.op = .call ⟨.builtin .append, #[s, x], #[t, t]⟩) (hu : P.underlying t = some (.slice el)) (hi : P.info? el = some i) (hz : i.zero = some z) (hzs : z.cells.size = i.size) (h0 : 0 < i.size) (hb0 : 1 ≤ i.bytes)
    (hs : ev l s = some (.sl tg n)) (hx : ev l x = some (.sl tx m)) (hts : getV hp tg = some (.row true el n i.size f)) (htx : getV hp tx = some (.row ox elx m i.size f'))
    (hb : (n + m) * i.bytes ≤ 140737488355328) (hf : ∀ k, k < n + m → f'' k = if k < n then f k else f' (k - n)) :
    AfterA A P base θ hp w ((execOp (Act.mk T ds).eval o).run P w) (.val (.sl hp.length (n + m)) (hp.set tg none ++ [some (.row true el (n + m) i.size f'')])) := by
  have hA : AppSrc P t el i.size i.bytes := ⟨hu, ⟨i, z, hi, hz, rfl, rfl, hzs⟩, h0⟩
  have hm : n + m ≤ maxLen := by
    have : (n + m) * 1 ≤ (n + m) * i.bytes := Nat.mul_le_mul_left _ hb0
    unfold maxLen
    omega
  obtain ⟨hh0, hT0⟩ := hI.inv θ (SameA.refl _ _)
  have htv := getV_some hts
  have hxv := getV_some htx
  have htl : tg < hp.length := (List.getElem?_eq_some_iff.1 htv).1
  have hxl : tx < hp.length := (List.getElem?_eq_some_iff.1 hxv).1
  obtain ⟨v', w', d', hr, hv', hbel, hkeep, hnew, hvw⟩ := app_core (P := P) (w := w) (θ := θ) (ty := o.type) (f'' := f'') hA hI.sz (hh0.vw tg _ htv) (hh0.vw tx _ hxv) hb hm
  refine ⟨v', w', fun _ => d', ?_, hbel, by simp, fun θ' hsm hn => ?_⟩
  · simp only [execOp, ho, resolve, invoke, builtin, Sem.run_bind, Sem.run_pure, Result.andThen_ok]
    have ea : (#[s, x].map (Act.mk T ds).eval) = #[den θ (.sl tg n), den θ (.sl tx m)] := by
      simp [ev_den hT0 hs, ev_den hT0 hx]
    rw [ea]
    simp only [den] at hr ⊢
    rw [hr]
    rfl
  · have hd := hn 0 (by simp)
    simp only [Nat.add_zero] at hd
    obtain ⟨hh, hT⟩ := hI.inv θ' hsm
    have e1 : θ' tg = θ tg := hsm tg (hI.kn tg _ htv)
    have e2 : θ' tx = θ tx := hsm tx (hI.kn tx _ hxv)
    refine ⟨hh.turn htv rfl (by rw [e1]; exact hkeep) hd (hvw θ' (by rw [← e1]; exact hh.vw tg _ htv) (by rw [← e2]; exact hh.vw tx _ hxv) hf) (by rw [e1]; exact hnew), by rw [hv']; simp [den, hd]⟩

theorem append_nil_after {o : Oper} {t el m tx sx : Nat} {s x : Operand} {i : TypeInfo} {z : Value} {ox : Bool} {elx : TypeId} {f' f'' : Nat → List SV} {A : Nat → Prop} (hI : PreA A P gl base θ l hp T w)
    (ho : o.op = .call ⟨.builtin .append, #[s, x], #[t, t]⟩) (hu : P.underlying t = some (.slice el)) (hi : P.info? el = some i) (hz : i.zero = some z) (hzs : z.cells.size = i.size) (h0 : 0 < i.size) (hb0 : 1 ≤ i.bytes)
    (hs : ev l s = some (.val (.slice none 0 0))) (hx : ev l x = some (.sl tx m)) (htx : getV hp tx = some (.row ox elx m i.size f'))
    (hb : m * i.bytes ≤ 140737488355328) (hf : ∀ k, k < m → f'' k = f' k) :
    AfterA A P base θ hp w ((execOp (Act.mk T ds).eval o).run P w) (.val (.sl hp.length m) (hp ++ [some (.row true el m i.size f'')])) := by
  have hA : AppSrc P t el i.size i.bytes := ⟨hu, ⟨i, z, hi, hz, rfl, rfl, hzs⟩, h0⟩
  have hm : 0 + m ≤ maxLen := by
    have : m * 1 ≤ m * i.bytes := Nat.mul_le_mul_left _ hb0
    unfold maxLen
    omega
  obtain ⟨hh0, hT0⟩ := hI.inv θ (SameA.refl _ _)
  have hxv := getV_some htx
  have hxl : tx < hp.length := (List.getElem?_eq_some_iff.1 hxv).1
  have hnil : ∀ θ', VwOk θ' base w (⟨none, 0, i.size⟩ : Ad) (.row true el 0 i.size (fun _ => [])) := fun θ' => ⟨rfl, Nat.le_refl _, ⟨.inl rfl, fun a ha => (by cases ha)⟩, fun k hk => by omega, fun a ha => (by cases ha), fun _ => .inl ⟨rfl, rfl⟩⟩
  obtain ⟨v', w', d', hr, hv', hbel, hkeep, hnew, hvw⟩ := app_core (P := P) (w := w) (θ := θ) (ty := o.type) (f'' := f'') hA hI.sz (hnil θ) (hh0.vw tx _ hxv) (by simpa using hb) hm
  simp only [Nat.zero_add] at *
  refine ⟨v', w', fun _ => d', ?_, hbel, by simp, fun θ' hsm hn => ?_⟩
  · simp only [execOp, ho, resolve, invoke, builtin, Sem.run_bind, Sem.run_pure, Result.andThen_ok]
    have ea : (#[s, x].map (Act.mk T ds).eval) = #[.slice none 0 0, den θ (.sl tx m)] := by
      simp [ev_den hT0 hs, ev_den hT0 hx, den]
    rw [ea]
    simp only [den] at hr ⊢
    rw [hr]
    rfl
  · have hd := hn 0 (by simp)
    simp only [Nat.add_zero] at hd
    obtain ⟨hh, hT⟩ := hI.inv θ' hsm
    have e2 : θ' tx = θ tx := hsm tx (hI.kn tx _ hxv)
    have hbw : Below w.heap.size w w' := ⟨hbel.os, hbel.tape, hbel.output, hbel.size, fun k hk => hkeep k hk (fun a ha => by cases ha)⟩
    refine ⟨hh.push hbw hd (hvw θ' (hnil θ') (by rw [← e2]; exact hh.vw tx _ hxv) (fun k hk => by simp [hf k hk])) (fun a ha => ?_), by rw [hv']; simp [den, hd]⟩
    rcases hnew a ha with h | ⟨a', h, -⟩
    · exact h
    · cases h

theorem below_setBlock {b : Nat} (hb : base ≤ b) (o : Obj) : Below base w { w with heap := w.heap.setIfInBounds b o } :=
  ⟨rfl, rfl, rfl, by simp, fun k hk => by
    show (w.heap.setIfInBounds b o)[k]? = w.heap[k]?
    rw [Array.getElem?_setIfInBounds_ne (by omega)]⟩

theorem map_new {o : Oper} {t kt et : TypeId} {k v : IntKind} (ho : o.op = .makeMap t none) (hu : P.underlying t = some (.map kt et)) :
    NewRun base l hp T w ((execOp (Act.mk T ds).eval o).run P w) (.mp hp.length) (.map true k v (fun _ => 0) []) := by
  refine ⟨.map (some w.heap.size), w.alloc (.map #[] 0), ⟨some ⟨w.heap.size, 0, none⟩, 0, 0⟩, ?_, below_alloc_self _ _, fun a ha => ?_, fun θ' hh ht hd => ⟨?_, ?_⟩⟩
  · simp [execOp, ho, Instr.makeMap, newObj, Result.andThen]
    rfl
  · cases ha; exact Nat.le_refl _
  · simp [den, hd]
  · exact ⟨w.heap.size, rfl, fun _ => Nat.le_refl _, #[], 0, (MapKept.heap_alloc w _).1, mapIn_empty⟩

theorem entry_store_after {o : Oper} {t : TypeId} {m s x : Operand} {tg : Nat} {k v : IntKind} {f : Int → Int} {s' a n : Int} {st : List (Int × Int)} {A : Nat → Prop} (hI : PreA A P gl base θ l hp T w) (ho : o.op = .entryStore t m s x)
    (hm : ev l m = some (.mp tg)) (hs : ev l s = some (.val (.int .i64 s'))) (hx : ev l x = some (.val (.int v n))) (ht : getV hp tg = some (.map true k v f ((s', a) :: st))) :
    AfterA A P base θ hp w ((execOp (Act.mk T ds).eval o).run P w) (.skip (hp.set tg (some (.map true k v (fun a' => if a' = a then n else f a') [])))) := by
  refine After.of_skip hI (by simp) (fun θ' hh hT => ?_)
  have htv := getV_some ht
  obtain ⟨b, hb, hbb, es, c, he, hin⟩ := hh.vw tg _ htv
  obtain ⟨es', hr, hin'⟩ := entryStore_run (P := P) (w := w) (t := t) (x := n) he hin
  refine ⟨_, ?_, below_setBlock (hbb rfl) (.map es' c), ?_⟩
  · simp only [execOp, ho, Sem.run_bind, ev_den hT hm, ev_den hT hs, ev_den hT hx, den, hb, Option.map_some, hr, Result.andThen_ok, Sem.run_pure]
  · refine hh.write (v' := .map true k v _ _) htv rfl rfl hb rfl (fun k hk => ?_) ⟨b, hb, hbb, es', c, (MapKept.heap_set he).1, hin'.1, hin'.2.1, hin'.2.2.1, fun p hp => by cases hp⟩
    exact (MapKept.heap_set he).2 k hk

theorem map_update_after {o : Oper} {t kt et : TypeId} {m y x : Operand} {tg : Nat} {k v : IntKind} {f : Int → Int} {a n : Int} {st : List (Int × Int)} {A : Nat → Prop} (hI : PreA A P gl base θ l hp T w) (ho : o.op = .mapUpdate t m y x)
    (hu : P.underlying t = some (.map kt et)) (hk : P.underlying kt = some (.int k)) (hm : ev l m = some (.mp tg)) (hy : ev l y = some (.val (.int k a))) (hx : ev l x = some (.val (.int v n))) (ht : getV hp tg = some (.map true k v f st)) :
    AfterA A P base θ hp w ((execOp (Act.mk T ds).eval o).run P w) (.skip (hp.set tg (some (.map true k v (fun a' => if a' = a then n else f a') [])))) := by
  refine After.of_skip hI (by simp) (fun θ' hh hT => ?_)
  have htv := getV_some ht
  obtain ⟨b, hb, hbb, es, c, he, hin⟩ := hh.vw tg _ htv
  obtain ⟨es', c', hr, hin'⟩ := mapUpdate_run (P := P) (w := w) (a := a) (x := n) hu hk he hin
  refine ⟨_, ?_, below_setBlock (hbb rfl) (.map es' c'), ?_⟩
  · simp only [execOp, ho, Sem.run_bind, ev_den hT hm, ev_den hT hy, ev_den hT hx, den, hb, Option.map_some, hr, Result.andThen_ok, Sem.run_pure]
  · refine hh.write (v' := .map true k v _ _) htv rfl rfl hb rfl (fun k hk => ?_) ⟨b, hb, hbb, es', c', (MapKept.heap_set he).1, hin'⟩
    exact (MapKept.heap_set he).2 k hk

end

end Go.Sx
