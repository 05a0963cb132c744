/-
  SX, part 5: the operations that only tell a value.
-/
import Derived.Test.YtehnnaanpmceiaaGreatDoorSx4
import Derived.Test.YtehnnaanpmceiaaGreatDoorSxm
set_option linter.unusedVariables false
set_option linter.unusedSimpArgs false
namespace Go.Sx
open Go.RowKit

def bt (s : ByteArray) (i : Int) : Int := ((s.data.toList.getD i.toNat 0).toNat : Int)

/-- A library function without a Go body tells v, and turns nothing. -/
def SExt (P : Program) (g : FuncId) (args : List SV) (v : SV) : Prop := ∀ (θ : Th) (W : World), (callFunc g (denL θ args).toArray).run P W = .ok (.value (den θ v)) W

/-- The kind of a type of numbers. -/
def zeroK (P : Program) (t : TypeId) : Option IntKind := match (P.info? t).bind (·.zero) with
  | some (.int v n) => if n == 0 then some v else none
  | _ => none

theorem zeroK_some {P : Program} {t : TypeId} {v : IntKind} (h : zeroK P t = some v) : (P.info? t).bind (·.zero) = some (.int v 0) := by
  unfold zeroK at h
  split at h
  · rename_i v' n hz
    split at h
    · rename_i hn
      rw [beq_iff_eq] at hn
      cases h; subst hn; exact hz
    · cases h
  · cases h

def sxV (P : Program) (gl : List (Nat × Vw)) (l : List (Option SV)) (hp : List (Option Vw)) (hs : List Hint) : Op → Option (List Prop × List Hint × SV)
  | .move x | .assign x => match ev l x with
    | some v => some ([], hs, v)
    | none => none
  | .pick c a b => match ev l c, hs with
    | some (.val (.bool t)), .b true :: hs => match ev l a with
      | some v => some ([t = true], hs, v)
      | none => none
    | some (.val (.bool t)), .b false :: hs => match ev l b with
      | some v => some ([t = false], hs, v)
      | none => none
    | _, _ => none
  | .build t parts => match evL l (parts.toList.map (·.2)) with
    | some vs => match builtS P t ((parts.toList.map (·.1)).zip vs) with
      | some cs => some ([], hs, .agg cs)
      | none => none
    | none => none
  | .load t a => match ev l a, isAg P t, szOf P t with
    | some x, some ag, some (n + 1) => match cellsAt gl hp (n + 1) x with
      | some (ps, r) => match mkv ag r with
        | some v => some (ps, hs, v)
        | none => none
      | none => none
    | _, _, _ => none
  | .nilCheck x => match ev l x with
    | some (.ptr t j) => match getV hp t with
      | some (.box _ (c :: cs)) => some ([], hs, .ptr t j)
      | _ => none
    | some (.fn (.func f) a b) => some ([], hs, .fn (.func f) a b)
    | some (.ifc t v) => some ([], hs, .ifc t v)
    | _ => none
  | .binOp op t x y _ => match ev l x, ev l y with
    | some (.val (.int k a)), some (.val (.int k' b)) => sxArith hs op k a k' b
    | some a, some b => match op with
      | .eql => match sxEq P t a b with
        | some r => some ([], hs, .val (.bool r))
        | none => none
      | .neq => match sxEq P t a b with
        | some r => some ([], hs, .val (.bool (!r)))
        | none => none
      | _ => none
    | _, _ => none
  | .unOp op _ x => match op, ev l x with
    | .not, some (.val (.bool b)) => some ([], hs, .val (.bool (!b)))
    | .neg, some (.val (.int k n)) => some ([InR k (0 - n)], hs, .val (.int k (0 - n)))
    | _, _ => none
  | .convert src dst x => match P.underlying src, P.underlying dst, ev l x with
    | some (.int _), some (.int k), some (.val (.int _ n)) => some ([InR k n], hs, .val (.int k n))
    | some .string, some .string, some (.val (.string s)) => some ([], hs, .val (.string s))
    | _, _, _ => none
  | .makeInterface t x => match P.underlying t, ev l x with
    | some (.interface _), _ => none
    | some _, some v => some ([], hs, .ifc t v)
    | _, _ => none
  | .makeFunc fn first captured => match evL l first.toList, evL l captured.toList with
    | some a, some b => some ([], hs, .fn fn a b)
    | _, _ => none
  | .fieldAddr s x field => match P.underlying s with
    | some (.struct fs) => match fs[field]? with
      | some f => match szOf P f.type, ev l x with
        | some (n + 1), some (.ptr t j) => match getV hp t with
          | some (.box _ (c :: cs)) => some ([], hs, .ptr t (j + f.offset))
          | _ => none
        | some (n + 1), some (.rptr t i j) => match getV hp t with
          | some (.row _ _ m _ _) => some ([0 ≤ i ∧ i < (m : Int)], hs, .rptr t i (j + f.offset))
          | _ => none
        | _, _ => none
      | none => none
    | _ => none
  | .field t x field => match P.underlying t, ev l x with
    | some (.struct fs), some (.agg cs) => match fs[field]? with
      | some f => match isAg P f.type, szOf P f.type with
        | some ag, some n => match cut cs f.offset n with
          | some r => match mkv ag r with
            | some v => if n == 0 then none else some ([], hs, v)
            | none => none
          | none => none
        | _, _ => none
      | none => none
    | _, _ => none
  | .indexAddr t x ix => match P.underlying t, ev l x, ev l ix with
    | some (.slice el), some (.sl t' n), some (.val (.int _ i)) => match getV hp t', szOf P el with
      | some (.row _ _ m sz _), some s => if s == sz then some ([0 ≤ i ∧ i < (m : Int), n = m], hs, .rptr t' i 0) else none
      | _, _ => none
    | some (.array len el), some (.ptr t' j), some (.val (.int _ i)) => match getV hp t', szOf P el with
      | some (.box _ (c :: cs)), some s => some ([0 ≤ i ∧ i < (len : Int)], hs, .ptr t' (j + i.toNat * s))
      | _, _ => none
    | some (.array len el), some (.val (.pointer (some ⟨g, 0, none⟩))), some (.val (.int _ i)) => match getG gl g, szOf P el with
      | some (.row _ _ m sz _), some s => if s == sz && m == len then some ([0 ≤ i ∧ i < (m : Int)], hs, .gptr g sz i 0) else none
      | _, _ => none
    | some (.slice el), some (.val (.slice (some ⟨g, 0, none⟩) n _)), some (.val (.int _ i)) => match getG gl g, szOf P el with
      | some (.row _ _ m sz _), some s => if s == sz && m == n then some ([0 ≤ i ∧ i < (m : Int)], hs, .gptr g sz i 0) else none
      | _, _ => none
    | _, _, _ => none
  | .lookup t x ix false => match P.underlying t, ev l x, ev l ix with
    | some (.map kt et), some (.mp tg), some (.val (.int k' a)) => match getV hp tg, P.underlying kt, zeroK P et with
      | some (.map _ k v f _), some (.int k''), some v' => if k == k' && k == k'' && v == v' then some ([], hs, .val (.int v (f a))) else none
      | _, _, _ => none
    | _, _, _ => none
  | .index t x ix => match P.underlying t, ev l x, ev l ix with
    | some .string, some (.val (.string s)), some (.val (.int _ i)) => some ([0 ≤ i ∧ i < (s.size : Int)], hs, .val (.int .u8 (bt s i)))
    | some (.array len el), some (.agg cs), some (.val (.int _ i)) => match isAg P el, szOf P el with
      | some ag, some n => match cut cs (i.toNat * n) n with
        | some r => match mkv ag r with
          | some v => some ([0 ≤ i ∧ i < (len : Int)], hs, v)
          | none => none
        | none => none
      | _, _ => none
    | _, _, _ => none
  | .extract x i => match ev l x with
    | some (.tup vs) => match vs[i]? with
      | some v => some ([], hs, v)
      | none => none
    | _ => none
  | .slice t x lo hi none => match P.underlying t, ev l x with
    | some .string, some (.val (.string s)) => match (match lo with | some a => ev l a | none => some (.val (.int .i64 0))), (match hi with | some a => ev l a | none => some (.val (.int .i64 (s.size : Int)))) with
      | some (.val (.int _ a)), some (.val (.int _ b)) => some ([0 ≤ b ∧ b ≤ (s.size : Int), 0 ≤ a ∧ a ≤ b], hs, .val (.string (s.extract a.toNat b.toNat)))
      | _, _ => none
    | some (.array n el), some (.val (.pointer (some ⟨g, 0, none⟩))) => match lo, hi, szOf P el with
      | none, none, some _ => some ([], hs, .val (.slice (some ⟨g, 0, none⟩) n n))
      | _, _, _ => none
    | _, _ => none
  | .call ⟨.value f, args, _⟩ => match ev l f, evL l args.toList, hs with
    | some (.fn (.func g) first captured), some as, .ext v :: hs => some ([SExt P g (first ++ as ++ captured) v], hs, v)
    | _, _, _ => none
  | .call ⟨.builtin .len, args, ats⟩ => match args.toList, ats.toList with
    | [x], [t] => match P.underlying t, ev l x with
      | some (.slice _), some (.sl _ n) => some ([], hs, .val (.int .i64 (n : Int)))
      | some (.slice _), some (.val (.slice _ n _)) => some ([], hs, .val (.int .i64 (n : Int)))
      | some .string, some (.val (.string s)) => some ([], hs, .val (.int .i64 (s.size : Int)))
      | _, _ => none
    | _, _ => none
  | .call ⟨.builtin .min, args, ats⟩ => match args.toList with
    | [x, y] => match ev l x, ev l y with
      | some (.val (.int k a)), some (.val (.int k' b)) => some ([], hs, .val (.int k (if b < a then b else a)))
      | _, _ => none
    | _ => none
  | .call ⟨.builtin .max, args, ats⟩ => match args.toList with
    | [x, y] => match ev l x, ev l y with
      | some (.val (.int k a)), some (.val (.int k' b)) => some ([], hs, .val (.int k (if a < b then b else a)))
      | _, _ => none
    | _ => none
  | _ => none

section
variable {P : Program} {gl : List (Nat × Vw)} {base : Nat} {θ : Th} {l : List (Option SV)} {hp : List (Option Vw)} {T : Array Value} {w : World} {ds : List Deferred}

theorem add_mk (b o k : Nat) : (⟨b, o, none⟩ : Addr).add k = ⟨b, o + k, none⟩ := by unfold Addr.add; split <;> simp_all

theorem box_base {t : Nat} {o : Bool} {c : SV} {cs : List SV} (hh : HpOk θ base hp w) (h : getV hp t = some (.box o (c :: cs))) : ∃ a, (θ t).base = some a := by
  obtain ⟨h1, -⟩ := hh.vw t _ (getV_some h)
  obtain ⟨a, ha, -⟩ := h1 (by simp)
  exact ⟨a, ha⟩

theorem row_base {t : Nat} {o : Bool} {el n sz : Nat} {f : Nat → List SV} (hh : HpOk θ base hp w) (h : getV hp t = some (.row o el n sz f)) (hn : 0 < n) : ∃ a, (θ t).base = some a ∧ a.spot = none ∧ (θ t).sz = sz := by
  obtain ⟨h1, -, ⟨h3, h4⟩, -⟩ := hh.vw t _ (getV_some h)
  rcases h3 with h3 | ⟨a, ha⟩
  · omega
  · exact ⟨a, ha, h4 a ha, h1⟩

theorem bt_get {s : ByteArray} {i : Int} (h0 : 0 ≤ i) (h1 : i < s.size) : ∃ b : UInt8, s[i.toNat]? = some b ∧ (b.toNat : Int) = bt s i := by
  have hlt : i.toNat < s.size := by omega
  refine ⟨s[i.toNat], by simp [hlt], ?_⟩
  unfold bt
  have : i.toNat < s.data.toList.length := by simpa using hlt
  rw [List.getD_eq_getElem?_getD, List.getElem?_eq_getElem this]
  rfl

theorem sxV_run {hs hs' : List Hint} {o : Oper} {ps : List Prop} {v : SV} (h : sxV P gl l hp hs o.op = some (ps, hs', v)) (hps : AllP ps) (hg : GOk gl w) (hh : HpOk θ base hp w) (hT : TOk θ l T) :
    (execOp (Act.mk T ds).eval o).run P w = .ok (.value (den θ v)) w := by
  cases ho : o.op <;> rw [ho] at h <;> try (simp only [sxV, reduceCtorEq] at h; done)
  case move x =>
    simp only [sxV] at h
    split at h
    · rename_i v' hv; cases h; simp [execOp, ho, ev_den hT hv]
    · cases h
  case assign x =>
    simp only [sxV] at h
    split at h
    · rename_i v' hv; cases h; simp [execOp, ho, ev_den hT hv]
    · cases h
  case pick c a b =>
    simp only [sxV] at h
    split at h
    · rename_i t hs' hc
      split at h
      · rename_i v' hv; cases h; simp [execOp, ho, ev_den hT hv, ev_den hT hc, den, asBool, hps.1]
      · cases h
    · rename_i t hs' hc
      split at h
      · rename_i v' hv; cases h; simp [execOp, ho, ev_den hT hv, ev_den hT hc, den, asBool, hps.1]
      · cases h
    · cases h
  case build t parts =>
    simp only [sxV] at h
    split at h
    · rename_i vs hv
      split at h
      · rename_i cs hc
        cases h
        have h1 := evParts (ds := ds) hT hv
        have h2 := builtS_run (P := P) (w := w) (θ := θ) hc
        have hpa : (parts.map fun x => (x.1, (Act.mk T ds).eval x.2)) = ((((parts.toList.map (·.1)).zip vs).map fun p => (p.1, den θ p.2)).toArray) := by
          apply Array.ext'
          rw [Array.toList_map]
          exact h1
        simp only [execOp, ho, Sem.run_bind]
        rw [hpa, h2]
        rfl
      · cases h
    · cases h
  case load t a =>
    simp only [sxV] at h
    split at h
    · rename_i x ag n hx hag hsz
      split at h
      · rename_i ps' r hc
        split at h
        · rename_i v' hm
          cases h
          obtain ⟨hl, ad, hd, hsp, hcell⟩ := cellsAt_den (θ := θ) (base := base) hc hps hh hg (Nat.succ_pos _)
          have := run_loadVar' (P := P) (w := w) (θ := θ) hag (by rw [hl]; exact hsz) hm hsp hcell
          simp only [execOp, ho, Instr.loadAt, ev_den hT hx, hd, Instr.sureAddr, Sem.run_bind, Sem.run_pure, Result.andThen_ok, this]
        · cases h
      · cases h
    · cases h
  case nilCheck x =>
    simp only [sxV] at h
    split at h
    · rename_i t j hx
      split at h
      · rename_i o' c cs hv
        cases h
        obtain ⟨a, ha⟩ := box_base hh hv
        simp [execOp, ho, ev_den hT hx, den, ha]
      · cases h
    · rename_i f a b hx
      cases h
      simp [execOp, ho, ev_den hT hx, den]
    · rename_i t v' hx
      cases h
      simp [execOp, ho, ev_den hT hx, den]
    · cases h
  case binOp op t x y yt =>
    simp only [sxV] at h
    split at h
    · rename_i k a k' b hx hy
      obtain ⟨u, rfl, hr⟩ := sxArith_run (P := P) (w := w) t h hps
      have hg0 : (eqGuard op t x y (.int k a) (.int k' b)).run P w = .ok () w := by cases op <;> simp [eqGuard]
      simp only [execOp, ho, ev_den hT hx, ev_den hT hy, den, Sem.run_bind, hg0, hr, Result.andThen_ok, Sem.run_pure]
    · rename_i a b hne hx hy
      split at h
      · split at h
        · rename_i r hr
          cases h
          have := sxEq_run (P := P) (w := w) (θ := θ) hr x y false
          simp only [Bool.false_eq_true, if_false] at this
          simp only [execOp, ho, ev_den hT hx, ev_den hT hy]
          rw [Sem.run_bind, this]
          rfl
        · cases h
      · split at h
        · rename_i r hr
          cases h
          have := sxEq_run (P := P) (w := w) (θ := θ) hr x y true
          simp only [if_true] at this
          simp only [execOp, ho, ev_den hT hx, ev_den hT hy]
          rw [Sem.run_bind, this]
          rfl
        · cases h
      · cases h
    · cases h
  case unOp op t x =>
    simp only [sxV] at h
    split at h
    · rename_i b hx; cases h; simp [execOp, ho, ev_den hT hx, den, Op.unary]
    · rename_i k n hx; cases h; simp only [execOp, ho, ev_den hT hx, den, Op.unary, Op.intArith, Sem.run_bind, Sem.run_pure, Result.andThen_ok, wrap_InR hps.1]
    · cases h
  case convert src dst x =>
    simp only [sxV] at h
    split at h
    · rename_i k0 k k1 n h1 h2 hx; cases h; simp only [execOp, ho, ev_den hT hx, den, convert, Sem.run_bind, run_underlying' h1, run_underlying' h2, Result.andThen_ok, Conv.intToInt, Sem.run_pure, wrap_InR hps.1]
    · rename_i s h1 h2 hx; cases h; simp [execOp, ho, ev_den hT hx, den, convert, run_underlying' h1, run_underlying' h2]
    · cases h
  case makeInterface t x =>
    simp only [sxV] at h
    split at h
    · cases h
    · rename_i d v' hne h1 hx
      cases h
      simp only [execOp, ho, ev_den hT hx, den, Instr.makeInterface, Sem.run_bind, run_underlying' h1, Result.andThen_ok]
      cases d <;> first | rfl | (exact absurd rfl (hne _))
    · cases h
  case makeFunc fn a b =>
    simp only [sxV] at h
    split at h
    · rename_i a' b' h1 h2
      cases h
      have e1 := evL_den (ds := ds) hT h1
      have e2 := evL_den (ds := ds) hT h2
      have e1' : a.map (Act.mk T ds).eval = (denL θ a').toArray := by apply Array.ext'; rw [Array.toList_map]; exact e1
      have e2' : b.map (Act.mk T ds).eval = (denL θ b').toArray := by apply Array.ext'; rw [Array.toList_map]; exact e2
      simp only [execOp, ho, Instr.makeFunc, Sem.run_bind, Sem.run_pure, Result.andThen_ok, e1', e2', den]
    · cases h
  case fieldAddr s x field =>
    simp only [sxV] at h
    split at h
    · rename_i fs hu
      split at h
      · rename_i f hf
        split at h
        · rename_i n t j hsz hx
          split at h
          · rename_i o' c cs hv
            cases h
            obtain ⟨a, ha⟩ := box_base hh hv
            simp [execOp, ho, ev_den hT hx, den, ha, Instr.fieldAt, run_underlying' hu, hf, Instr.sureAddr, fieldPlace, run_sizeOf hsz, add_mk, at_, Nat.add_assoc]
          · cases h
        · rename_i n t i j hsz hx
          split at h
          · rename_i o' el m sz g hv
            cases h
            obtain ⟨a, ha, hsp, hsz'⟩ := row_base hh hv (by have := hps.1; omega)
            simp [execOp, ho, ev_den hT hx, den, ha, Instr.fieldAt, run_underlying' hu, hf, Instr.sureAddr, fieldPlace, run_sizeOf hsz, add_mk, at_, Nat.add_assoc]
          · cases h
        · cases h
      · cases h
    · cases h
  case field t x field =>
    simp only [sxV] at h
    split at h
    · rename_i fs cs hu hx
      split at h
      · rename_i f hf
        split at h
        · rename_i ag n hag hsz
          split at h
          · rename_i r hc
            split at h
            · rename_i v' hm
              split at h
              · cases h
              · rename_i hn
                cases h
                obtain ⟨hl, hr⟩ := cut_some hc
                simp only [execOp, ho, ev_den hT hx, den, Instr.field, Sem.run_bind, run_underlying' hu, Result.andThen_ok, hf, asAgg, Sem.run_pure, part, run_isAg hag]
                unfold mkv at hm
                split at hm
                · rename_i hag'
                  cases hm
                  simp only [hag', if_true, Sem.run_bind, run_sizeOf hsz, Result.andThen_ok, Sem.run_pure, den]
                  congr 3
                  apply Array.ext'
                  unfold cut at hc
                  split at hc
                  · cases hc
                    simp [denL_map, List.map_take, List.map_drop, Array.toList_extract, List.extract_eq_take_drop]
                  · cases hc
                · rename_i hag'
                  split at hm
                  · rename_i u
                    cases hm
                    have := hr 0 _ rfl
                    rw [Nat.add_zero] at this
                    have := denL_get (θ := θ) this
                    simp [hag', this]
                  · cases hm
            · cases h
          · cases h
        · cases h
      · cases h
    · cases h
  case indexAddr t x ix =>
    simp only [sxV] at h
    split at h
    · rename_i el t' n k i hu hx hi
      split at h
      · rename_i o' el' m sz f s hv hsz
        split at h
        · rename_i hc
          rw [beq_iff_eq] at hc
          subst hc
          cases h
          have hps1 := hps.1
          have hnm := hps.2.1
          subst hnm
          obtain ⟨a, ha, hsp, hsz'⟩ := row_base hh hv (by omega)
          have hadd := at_add a hsp (i.toNat * s)
          simp only [execOp, ho, ev_den hT hx, ev_den hT hi, den, ha, Instr.indexAt, asIntOf, Sem.run_bind, Sem.run_pure, Result.andThen_ok, run_underlying' hu, hps1, and_self, if_true, run_sizeOf hsz, hadd, hsz', Option.map_some, Nat.add_zero]
        · cases h
      · cases h
    · rename_i len el t' j k i hu hx hi
      split at h
      · rename_i o' c cs s hv hsz
        cases h
        have hps1 := hps.1
        obtain ⟨a, ha⟩ := box_base hh hv
        simp [execOp, ho, ev_den hT hx, ev_den hT hi, den, ha, Instr.indexAt, Instr.sureAddr, asIntOf, run_underlying' hu, hps1, run_sizeOf hsz, add_mk, at_, Nat.add_assoc]
      · cases h
    · rename_i len el g k i hu hx hi
      split at h
      · rename_i o' el' m sz f s hv hsz
        split at h
        · rename_i hc
          simp only [Bool.and_eq_true, beq_iff_eq] at hc
          obtain ⟨rfl, rfl⟩ := hc
          cases h
          have hps1 := hps.1
          simp [execOp, ho, ev_den hT hx, ev_den hT hi, den, Instr.indexAt, Instr.sureAddr, asIntOf, run_underlying' hu, hps1, run_sizeOf hsz, add_mk, at_]
        · cases h
      · cases h
    · rename_i el g n _ k i hu hx hi
      split at h
      · rename_i o' el' m sz f s hv hsz
        split at h
        · rename_i hc
          simp only [Bool.and_eq_true, beq_iff_eq] at hc
          obtain ⟨rfl, rfl⟩ := hc
          cases h
          have hps1 := hps.1
          simp [execOp, ho, ev_den hT hx, ev_den hT hi, den, Instr.indexAt, asIntOf, run_underlying' hu, hps1, run_sizeOf hsz, add_mk, at_]
        · cases h
      · cases h
    · cases h
  case lookup t x ix ok =>
    cases ok with
    | true => simp only [sxV, reduceCtorEq] at h
    | false =>
      simp only [sxV] at h
      split at h
      · rename_i kt et tg k' a hu hx hi
        split at h
        · rename_i o' k v f st k'' v' hv hk hz
          split at h
          · rename_i hc
            simp only [Bool.and_eq_true] at hc
            obtain ⟨⟨c1, c2⟩, c3⟩ := hc
            obtain rfl := IntKind_beq c1
            obtain rfl := IntKind_beq c2
            obtain rfl := IntKind_beq c3
            cases h
            obtain ⟨b, hb, -, es, c, he, hm⟩ := hh.vw tg _ (getV_some hv)
            have := lookup_run (P := P) (w := w) (a := a) hu hk (zeroK_some hz) he hm
            simp only [execOp, ho, ev_den hT hx, ev_den hT hi, den, hb, Option.map_some, Sem.run_bind, this, Result.andThen_ok, Sem.run_pure]
          · cases h
        · cases h
      · cases h
  case index t x ix =>
    simp only [sxV] at h
    split at h
    · rename_i s k i hu hx hi
      cases h
      obtain ⟨b, h1, h2⟩ := bt_get hps.1.1 hps.1.2
      simp [execOp, ho, ev_den hT hx, ev_den hT hi, den, Instr.index, asIntOf, run_underlying' hu, hps.1.1, h1, h2]
    · rename_i len el cs k i hu hx hi
      split at h
      · rename_i ag n hag hsz
        split at h
        · rename_i r hc
          split at h
          · rename_i v' hm
            cases h
            obtain ⟨hl, hr⟩ := cut_some hc
            have hps1 := hps.1
            simp only [execOp, ho, ev_den hT hx, ev_den hT hi, den, Instr.index, asIntOf, Sem.run_bind, run_underlying' hu, Result.andThen_ok, Sem.run_pure, hps1, and_self, if_true, run_sizeOf hsz, part, run_isAg hag]
            unfold mkv at hm
            split at hm
            · rename_i hag'
              cases hm
              simp only [hag', if_true, Sem.run_bind, run_sizeOf hsz, Result.andThen_ok, Sem.run_pure, den]
              congr 3
              apply Array.ext'
              unfold cut at hc
              split at hc
              · cases hc
                simp [denL_map, List.map_take, List.map_drop, Array.toList_extract, List.extract_eq_take_drop]
              · cases hc
            · rename_i hag'
              split at hm
              · rename_i u
                cases hm
                have := hr 0 _ rfl
                rw [Nat.add_zero] at this
                have := denL_get (θ := θ) this
                simp [hag', this]
              · cases hm
          · cases h
        · cases h
      · cases h
    · cases h
  case extract x i =>
    simp only [sxV] at h
    split at h
    · rename_i vs hx
      split at h
      · rename_i v' hv
        cases h
        have := denL_get (θ := θ) hv
        simp [execOp, ho, ev_den hT hx, den, Instr.extract, this]
      · cases h
    · cases h
  case slice t x lo hi mx =>
    cases mx with
    | some m => simp only [sxV, reduceCtorEq] at h
    | none =>
      simp only [sxV] at h
      split at h
      · rename_i s hu hx
        split at h
        · rename_i k a k' b ha hb
          cases h
          obtain ⟨⟨b0, b1⟩, ⟨a0, a1⟩, -⟩ := hps
          have hlo : ∀ W : World, (match lo.map (Act.mk T ds).eval with
              | some v => Instr.sliceBound v b.toNat .sliceB
              | none => pure 0 : Sem Nat).run P W = .ok a.toNat W := fun W => by
            cases lo with
            | none => simp at ha; obtain ⟨-, rfl⟩ := ha; simp
            | some x' => simp only [Option.map_some]; rw [ev_den hT ha]; simp only [den, Instr.sliceBound, asIntOf, Sem.run_bind, Sem.run_pure, Result.andThen_ok]; rw [if_pos ⟨a0, by omega⟩]; rfl
          have hhi : ∀ W : World, (match hi.map (Act.mk T ds).eval with
              | some v => Instr.sliceBound v s.size .sliceAlen
              | none => pure s.size : Sem Nat).run P W = .ok b.toNat W := fun W => by
            cases hi with
            | none => simp at hb; obtain ⟨-, rfl⟩ := hb; simp
            | some x' => simp only [Option.map_some]; rw [ev_den hT hb]; simp only [den, Instr.sliceBound, asIntOf, Sem.run_bind, Sem.run_pure, Result.andThen_ok]; rw [if_pos ⟨b0, b1⟩]; rfl
          have hbd : (Instr.sliceBounds false s.size s.size (lo.map (Act.mk T ds).eval) (hi.map (Act.mk T ds).eval) none).run P w = .ok (a.toNat, b.toNat, s.size) w := by
            unfold Instr.sliceBounds
            have h2 := hhi w
            have h3 := hlo w
            cases hi <;> cases lo <;> simp_all [Sem.run_bind]
          simp only [execOp, ho, ev_den hT hx, den, Instr.sliceAt, Sem.run_bind, run_underlying' hu, Result.andThen_ok, Instr.slice, Option.map_none]
          simp [hbd]
        · cases h
      · rename_i n el g hu hx
        split at h
        · rename_i s hsz
          cases h
          simp [execOp, ho, ev_den hT hx, den, Instr.sliceAt, run_underlying' hu, Instr.sliceBounds, Instr.sureAddr, run_sizeOf hsz, add_mk]
        · cases h
      · cases h
  case call c =>
    obtain ⟨callee, args, ats⟩ := c
    cases callee with
    | value f =>
      simp only [sxV] at h
      split at h
      · rename_i g first captured as v' hs'' hf has
        cases h
        have e1 : args.map (Act.mk T ds).eval = (denL θ as).toArray := by apply Array.ext'; rw [Array.toList_map]; exact evL_den (ds := ds) hT has
        have h1 := hps.1 θ w
        simp only [execOp, ho, resolve, ev_den hT hf, den, Deferred.ofValue, Sem.run_bind, Sem.run_pure, Result.andThen_ok, invoke, e1]
        rw [← h1]
        congr 2
        simp [denL_map]
      · cases h
    | invoke r m => simp only [sxV, reduceCtorEq] at h
    | builtin b =>
      cases b <;> try (simp only [sxV, reduceCtorEq] at h; done)
      case len =>
        simp only [sxV] at h
        split at h
        · rename_i x t hargs hats
          have ea : args = #[x] := by apply Array.ext'; simpa using hargs
          have et : ats = #[t] := by apply Array.ext'; simpa using hats
          subst ea et
          split at h
          · rename_i el t' n hu hx; cases h; simp [execOp, ho, resolve, invoke, builtin, Builtin.len_, run_underlying' hu, ev_den hT hx, den, goInt]
          · rename_i el _ n _ hu hx; cases h; simp [execOp, ho, resolve, invoke, builtin, Builtin.len_, run_underlying' hu, ev_den hT hx, den, goInt]
          · rename_i s hu hx; cases h; simp [execOp, ho, resolve, invoke, builtin, Builtin.len_, run_underlying' hu, ev_den hT hx, den, goInt]
          · cases h
        · cases h
      case min =>
        simp only [sxV] at h
        split at h
        · rename_i x y hargs
          have ea : args = #[x, y] := by apply Array.ext'; simpa using hargs
          subst ea
          split at h
          · rename_i k a k' b hx hy; cases h; simp [execOp, ho, resolve, invoke, builtin, Builtin.min_, Builtin.min2, ev_den hT hx, ev_den hT hy, den]
          · cases h
        · cases h
      case max =>
        simp only [sxV] at h
        split at h
        · rename_i x y hargs
          have ea : args = #[x, y] := by apply Array.ext'; simpa using hargs
          subst ea
          split at h
          · rename_i k a k' b hx hy; cases h; simp [execOp, ho, resolve, invoke, builtin, Builtin.max_, Builtin.max2, ev_den hT hx, ev_den hT hy, den]
          · cases h
        · cases h

end

end Go.Sx
