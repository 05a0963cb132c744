/-
  SX, part 2: the operations.
-/
import Derived.Test.YtehnnaanpmceiaaGreatDoorSx1
import Derived.Laws.StructEq
import Derived.Laws.Tables
set_option linter.unusedVariables false
set_option linter.unusedSimpArgs false
namespace Go.Sx
open Go.RowKit

/-- Bits of numbers, as the model has them. -/
def andI (k : IntKind) (a b : Int) : Int := k.wrap (BitVec.ofInt k.bits a &&& BitVec.ofInt k.bits b).toNat
def orI (k : IntKind) (a b : Int) : Int := k.wrap (BitVec.ofInt k.bits a ||| BitVec.ofInt k.bits b).toNat
def xorI (k : IntKind) (a b : Int) : Int := k.wrap (BitVec.ofInt k.bits a ^^^ BitVec.ofInt k.bits b).toNat
def andNotI (k : IntKind) (a b : Int) : Int := k.wrap (BitVec.ofInt k.bits a &&& ~~~BitVec.ofInt k.bits b).toNat
def shlI (k : IntKind) (a b : Int) : Int := k.wrap (a * 2 ^ min b.toNat k.bits)
def shrI (k : IntKind) (a b : Int) : Int := a.fdiv (2 ^ min b.toNat k.bits)

/-- Numbers: sums are asked to fit (the hint 'w': they may wrap round); quotients are of numbers from 0 on (the hint 't': whatever the sign). -/
def sxInt (hs : List Hint) (op : BinOp) (k : IntKind) (a b : Int) : Option (List Prop × List Hint × SV) :=
  match op with
  | .add => match hs with
    | .w :: hs => some ([], hs, .val (.int k (k.wrap (a + b))))
    | .t :: hs => some ([InR k (a + b)], hs, .val (.int k (a + b)))
    | hs => some ([InR k (a + b)], hs, .val (.int k (a + b)))
  | .sub => match hs with
    | .w :: hs => some ([], hs, .val (.int k (k.wrap (a - b))))
    | .t :: hs => some ([InR k (a - b)], hs, .val (.int k (a - b)))
    | hs => some ([InR k (a - b)], hs, .val (.int k (a - b)))
  | .mul => match hs with
    | .w :: hs => some ([], hs, .val (.int k (k.wrap (a * b))))
    | .t :: hs => some ([InR k (a * b)], hs, .val (.int k (a * b)))
    | hs => some ([InR k (a * b)], hs, .val (.int k (a * b)))
  | .and => some ([], hs, .val (.int k (andI k a b)))
  | .or => some ([], hs, .val (.int k (orI k a b)))
  | .xor => some ([], hs, .val (.int k (xorI k a b)))
  | .andNot => some ([], hs, .val (.int k (andNotI k a b)))
  | .quo => match hs with
    | .t :: hs => some ([b ≠ 0, InR k (a.tdiv b)], hs, .val (.int k (a.tdiv b)))
    | hs => some ([0 ≤ a, 0 < b, InR k (a / b)], hs, .val (.int k (a / b)))
  | .rem => match hs with
    | .t :: hs => some ([b ≠ 0], hs, .val (.int k (a.tmod b)))
    | hs => some ([0 ≤ a, 0 < b], hs, .val (.int k (a % b)))
  | .eql => some ([], hs, .val (.bool (a == b)))
  | .neq => some ([], hs, .val (.bool (a != b)))
  | .lss => some ([], hs, .val (.bool (decide (a < b))))
  | .leq => some ([], hs, .val (.bool (decide (a ≤ b))))
  | .gtr => some ([], hs, .val (.bool (decide (a > b))))
  | .geq => some ([], hs, .val (.bool (decide (a ≥ b))))
  | _ => none

theorem sxInt_run {P : Program} {w : World} {hs hs' : List Hint} {op : BinOp} {k : IntKind} {a b : Int} {ps : List Prop} {v : SV} (t : TypeId) (h : sxInt hs op k a b = some (ps, hs', v)) (hp : AllP ps) :
    ∃ x, v = .val x ∧ (binOp op t (.int k a) (.int k b)).run P w = .ok x w := by
  cases op <;> simp only [sxInt, reduceCtorEq, Option.some.injEq, Prod.mk.injEq] at h
  case add =>
    split at h <;> (simp only [Option.some.injEq, Prod.mk.injEq] at h; obtain ⟨rfl, -, rfl⟩ := h)
    · exact ⟨_, rfl, by simp [binOp, Op.intArith]⟩
    · exact ⟨_, rfl, by simp [binOp, Op.intArith, wrap_InR hp.1]⟩
    · exact ⟨_, rfl, by simp [binOp, Op.intArith, wrap_InR hp.1]⟩
  case sub =>
    split at h <;> (simp only [Option.some.injEq, Prod.mk.injEq] at h; obtain ⟨rfl, -, rfl⟩ := h)
    · exact ⟨_, rfl, by simp [binOp, Op.intArith]⟩
    · exact ⟨_, rfl, by simp [binOp, Op.intArith, wrap_InR hp.1]⟩
    · exact ⟨_, rfl, by simp [binOp, Op.intArith, wrap_InR hp.1]⟩
  case mul =>
    split at h <;> (simp only [Option.some.injEq, Prod.mk.injEq] at h; obtain ⟨rfl, -, rfl⟩ := h)
    · exact ⟨_, rfl, by simp [binOp, Op.intArith]⟩
    · exact ⟨_, rfl, by simp [binOp, Op.intArith, wrap_InR hp.1]⟩
    · exact ⟨_, rfl, by simp [binOp, Op.intArith, wrap_InR hp.1]⟩
  case and => obtain ⟨rfl, -, rfl⟩ := h; exact ⟨_, rfl, by simp [binOp, Op.intBits, andI]⟩
  case or => obtain ⟨rfl, -, rfl⟩ := h; exact ⟨_, rfl, by simp [binOp, Op.intBits, orI]⟩
  case xor => obtain ⟨rfl, -, rfl⟩ := h; exact ⟨_, rfl, by simp [binOp, Op.intBits, xorI]⟩
  case andNot => obtain ⟨rfl, -, rfl⟩ := h; exact ⟨_, rfl, by simp [binOp, Op.intBits, andNotI]⟩
  case quo =>
    split at h <;> (simp only [Option.some.injEq, Prod.mk.injEq] at h; obtain ⟨rfl, -, rfl⟩ := h)
    · exact ⟨_, rfl, by simp [binOp, Op.intDiv, hp.1, wrap_InR hp.2.1]⟩
    · refine ⟨_, rfl, ?_⟩
      have h1 : b ≠ 0 := by have := hp.2.1; omega
      simp only [binOp, Op.intDiv, h1, if_false, ne_eq, not_true_eq_false]
      rw [Int.tdiv_eq_ediv_of_nonneg hp.1]
      simp [wrap_InR hp.2.2.1]
  case rem =>
    split at h <;> (simp only [Option.some.injEq, Prod.mk.injEq] at h; obtain ⟨rfl, -, rfl⟩ := h)
    · exact ⟨_, rfl, by simp [binOp, Op.intDiv, hp.1]⟩
    · refine ⟨_, rfl, ?_⟩
      have h1 : b ≠ 0 := by have := hp.2.1; omega
      simp only [binOp, Op.intDiv, h1, if_false, ne_eq, not_true_eq_false]
      rw [Int.tmod_eq_emod_of_nonneg hp.1]
      simp
  all_goals (obtain ⟨rfl, -, rfl⟩ := h; exact ⟨_, rfl, by simp [binOp, Op.intCmp]⟩)

/-- The two numbers of a shift may be of two kinds. -/
def sxArith (hs : List Hint) (op : BinOp) (k : IntKind) (a : Int) (k' : IntKind) (b : Int) : Option (List Prop × List Hint × SV) :=
  match op with
  | .shl => some ([0 ≤ b], hs, .val (.int k (shlI k a b)))
  | .shr => some ([0 ≤ b], hs, .val (.int k (shrI k a b)))
  | op => if k == k' then sxInt hs op k a b else none

/-- '==' cell by cell: numbers, bools. -/
def eqS : SV → SV → Option Bool
  | .val (.int k a), .val (.int k' b) => if k = k' then some (a == b) else none
  | .val (.bool a), .val (.bool b) => some (a == b)
  | _, _ => none

/-- '==' of structs whose fields are numbers and bools, by their types. -/
def eqF (P : Program) : List Field → List SV → List SV → Option Bool
  | [], _, _ => some true
  | f :: fs, xs, ys => if f.name == "_" then none else match P.underlying f.type with
    | some (.int _) => match xs[f.offset]?, ys[f.offset]? with
      | some (.val (.int k a)), some (.val (.int k' b)) => match k == k', eqF P fs xs ys with
        | true, some r => some (a == b && r)
        | _, _ => none
      | _, _ => none
    | some .bool => match xs[f.offset]?, ys[f.offset]? with
      | some (.val (.bool a)), some (.val (.bool b)) => match eqF P fs xs ys with
        | some r => some (a == b && r)
        | _ => none
      | _, _ => none
    | _ => none

def sxEq (P : Program) (t : TypeId) (x y : SV) : Option Bool := match P.underlying t with
  | some (.struct fs) => if P.stoodInHeld t || P.eqGuardType P.depth t then none else match x, y with
    | .agg xs, .agg ys => eqF P fs.toList xs ys
    | _, _ => none
  | some .bool => match x, y with
    | .val (.bool a), .val (.bool b) => some (a == b)
    | _, _ => none
  | some .string => match x, y with
    | .val (.string a), .val (.string b) => some (a.toList == b.toList)
    | _, _ => none
  | _ => none

theorem IntKind_beq {k k' : IntKind} (h : (k == k') = true) : k = k' := by
  cases k <;> cases k' <;> first | rfl | (exact absurd h (by decide))

theorem sxArith_run {P : Program} {w : World} {hs hs' : List Hint} {op : BinOp} {k k' : IntKind} {a b : Int} {ps : List Prop} {v : SV} (t : TypeId) (h : sxArith hs op k a k' b = some (ps, hs', v)) (hp : AllP ps) :
    ∃ x, v = .val x ∧ (binOp op t (.int k a) (.int k' b)).run P w = .ok x w := by
  unfold sxArith at h
  split at h
  · cases h
    have := hp.1
    exact ⟨_, rfl, by simp [binOp, Op.shift, shlI, show ¬ b < 0 by omega]⟩
  · cases h
    have := hp.1
    exact ⟨_, rfl, by simp [binOp, Op.shift, shrI, show ¬ b < 0 by omega]⟩
  · split at h
    · rename_i hk
      obtain rfl := IntKind_beq hk
      exact sxInt_run t h hp
    · cases h

section
variable {P : Program} {w : World} {θ : Th}

theorem run_underlying' {t : TypeId} {d : TypeDesc} (h : P.underlying t = some d) : (underlying t).run P w = .ok d w := by simp [underlying, h]

theorem run_part' {t : TypeId} {cs : Array Value} {j : Nat} {v : Value} (h : isAg P t = some false) (hc : cs[j]? = some v) : (part t cs j).run P w = .ok v w := by
  unfold part
  rw [Sem.run_bind, run_isAg h]
  simp [hc]

theorem denL_get {xs : List SV} {j : Nat} {v : SV} (h : xs[j]? = some v) : (denL θ xs).toArray[j]? = some (den θ v) := by
  rw [denL_map]
  simp [h]

theorem run_eqFields (d : Nat) : ∀ (fs : List Field) (xs ys : List SV) (b : Bool), eqF P fs xs ys = some b →
    (Op.eqFields (d + 1) (denL θ xs).toArray (denL θ ys).toArray fs).run P w = .ok b w
  | [], xs, ys, b, h => by simp only [eqF, Option.some.injEq] at h; subst h; rfl
  | f :: fs, xs, ys, b, h => by
    simp only [eqF] at h
    split at h
    · cases h
    · rename_i hn
      have hn' : f.name ≠ "_" := by intro e; exact hn (by rw [beq_iff_eq]; exact e)
      simp only [Op.eqFields]
      rw [if_pos hn']
      split at h
      · rename_i ki hu
        have hag : isAg P f.type = some false := by unfold isAg; rw [hu]
        split at h
        · rename_i k a k' b' h1 h2
          split at h
          · rename_i r hk hr
            cases h
            obtain rfl := IntKind_beq hk
            simp only [Sem.run_bind, run_part' hag (denL_get h1), run_part' hag (denL_get h2), Result.andThen_ok, den, run_equalIn_int w d f.type k ki a b' hu, Sem.run_ite, Sem.run_pure,
              run_eqFields d fs xs ys r hr]
            cases (a == b') <;> simp
          · cases h
        · cases h
      · rename_i hu
        have hag : isAg P f.type = some false := by unfold isAg; rw [hu]
        split at h
        · rename_i a b' h1 h2
          split at h
          · rename_i r hr
            cases h
            simp only [Sem.run_bind, run_part' hag (denL_get h1), run_part' hag (denL_get h2), Result.andThen_ok, den, run_equalIn_bool w d f.type a b' hu, Sem.run_ite, Sem.run_pure,
              run_eqFields d fs xs ys r hr]
            cases (a == b') <;> simp
          · cases h
        · cases h
      · cases h

theorem sxEq_run {t : TypeId} {x y : SV} {b : Bool} (h : sxEq P t x y = some b) (o1 o2 : Operand) (ne : Bool) :
    (do eqGuard (if ne then .neq else .eql) t o1 o2 (den θ x) (den θ y); binOp (if ne then .neq else .eql) t (den θ x) (den θ y) : Sem Value).run P w = .ok (.bool (if ne then !b else b)) w := by
  unfold sxEq at h
  split at h
  · rename_i fs hu
    split at h
    · cases h
    · rename_i hg
      rw [Bool.not_eq_true, Bool.or_eq_false_iff] at hg
      split at h
      · rename_i xs ys
        have hf : P.fieldsOf t = fs := by unfold Program.fieldsOf; rw [hu]
        have he := run_equalIn_agg (P := P) w 9999 t (denL θ xs).toArray (denL θ ys).toArray (by rw [hf]; exact hu) hg.1
        rw [hf, run_eqFields 9998 fs.toList xs ys b h] at he
        cases ne
        · simp only [den, Sem.run_bind, run_eqGuard_agg _ _ _ _ _ _ _ hg.2, Result.andThen_ok, if_false, Bool.false_eq_true]
          rw [run_eql_struct, he]; rfl
        · simp only [den, Sem.run_bind, run_eqGuard_agg _ _ _ _ _ _ _ hg.2, Result.andThen_ok, if_true]
          rw [run_neq_struct, he]; rfl
      · cases h
  · rename_i hu
    split at h
    · rename_i a b'
      cases h
      have he := run_equalIn_bool (P := P) w 9999 t a b' hu
      cases ne <;> simp [den, eqGuard, binOp, Op.equal, Op.maxDepth, he]
    · cases h
  · rename_i hu
    split at h
    · rename_i a b'
      cases h
      cases ne <;> simp [den, eqGuard, binOp, Op.stringOp]
    · cases h
  · cases h

end

/-- The parts of a struct or an array, laid in. -/
def fillS (place : Nat → Option (Nat × Nat)) (cells : List SV) : List (Nat × SV) → Option (List SV)
  | [] => some cells
  | (i, v) :: rest => match place i, cellsS v with
    | some (off, size), some cs => if cs.length ≠ size || off + cs.length > cells.length then none
      else fillS place (cells.take off ++ cs ++ cells.drop (off + cs.length)) rest
    | _, _ => none

theorem foldl_sets : ∀ (cs : List Value) (n off : Nat) (acc : Array Value), off + n + cs.length ≤ acc.size →
    (cs.zipIdx n).foldl (fun (a : Array Value) (p : Value × Nat) => a.setIfInBounds (off + p.2) p.1) acc = (acc.toList.take (off + n) ++ cs ++ acc.toList.drop (off + n + cs.length)).toArray
  | [], n, off, acc, h => by simp
  | c :: cs, n, off, acc, h => by
    simp only [List.length_cons] at h
    rw [List.zipIdx_cons, List.foldl_cons, foldl_sets cs (n + 1) off _ (by simp; omega)]
    apply Array.ext'
    simp only [Array.toList_setIfInBounds]
    have h1 : off + n < acc.toList.length := by simp; omega
    have e1 : (acc.toList.set (off + n) c).take (off + (n + 1)) = acc.toList.take (off + n) ++ [c] := by
      rw [← Nat.add_assoc, List.take_succ_eq_append_getElem (by simpa using h1)]
      simp [List.take_set_of_le]
    have e2 : (acc.toList.set (off + n) c).drop (off + (n + 1) + cs.length) = acc.toList.drop (off + n + (c :: cs).length) := by
      rw [List.drop_set_of_lt (by omega)]
      congr 1
      simp only [List.length_cons]; omega
    rw [e1, e2]
    simp

theorem fillS_den {θ : Th} {place : Nat → Option (Nat × Nat)} : ∀ {parts : List (Nat × SV)} {cells cs : List SV}, fillS place cells parts = some cs →
    Instr.fill place (denL θ cells).toArray (parts.map fun p => (p.1, den θ p.2)) = some (denL θ cs).toArray
  | [], cells, cs, h => by simp only [fillS, Option.some.injEq] at h; subst h; rfl
  | (i, v) :: rest, cells, cs, h => by
    simp only [fillS] at h
    split at h
    · rename_i off size c hp hc
      split at h
      · cases h
      · rename_i hn
        simp only [List.map_cons, Instr.fill, hp, cellsS_den hc]
        have hl : (denL θ c).toArray.size = c.length := by simp [denL_map]
        have hl2 : (denL θ cells).toArray.size = cells.length := by simp [denL_map]
        rw [hl, hl2, if_neg hn]
        have e : ((denL θ c).toArray.zipIdx.foldl (fun cs (c, j) => cs.setIfInBounds (off + j) c) (denL θ cells).toArray) =
            (denL θ (cells.take off ++ c ++ cells.drop (off + c.length))).toArray := by
          have hle : off + c.length ≤ cells.length := by simp at hn; omega
          have := foldl_sets (denL θ c) 0 off (denL θ cells).toArray (by simp [denL_map]; omega)
          rw [← Array.foldl_toList]
          simp only [Array.toList_zipIdx] at *
          rw [this]
          simp [denL_map, List.map_take, List.map_drop]
        rw [e]
        exact fillS_den h
    · cases h

def builtS (P : Program) (t : TypeId) (parts : List (Nat × SV)) : Option (List SV) := match P.info? t, P.underlying t with
  | some it, some (.struct fs) => match it.zero, fs.toList.mapM (fun f => (P.info? f.type).map fun i => (f.offset, i.size)) with
    | some z, some places => fillS (places[·]?) (z.cells.toList.map .val) parts
    | _, _ => none
  | some it, some (.array _ e) => match it.zero, P.info? e with
    | some z, some ie => fillS (fun i => some (i * ie.size, ie.size)) (z.cells.toList.map .val) parts
    | _, _ => none
  | _, _ => none

section
variable {P : Program} {w : World} {θ : Th}
theorem builtS_run {t : TypeId} {parts : List (Nat × SV)} {cs : List SV} (h : builtS P t parts = some cs) :
    (Instr.build t (parts.map fun p => (p.1, den θ p.2)).toArray).run P w = .ok (den θ (.agg cs)) w := by
  refine run_build w t _ _ ?_
  unfold builtS at h
  unfold Program.built
  split at h
  · rename_i it fs h1 h2
    split at h
    · rename_i z places h3 h4
      have := fillS_den (θ := θ) h
      rw [denL_vals] at this
      simp only [h1, h2, h3, h4]
      simpa using this
    · cases h
  · rename_i it n e h1 h2
    split at h
    · rename_i z ie h3 h4
      have := fillS_den (θ := θ) h
      rw [denL_vals] at this
      simp only [h1, h2, h3, h4]
      simpa using this
    · cases h
  · cases h
end

end Go.Sx
