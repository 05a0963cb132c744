/-
  SX, part 11c: behind the open part: what of it still may come, while the next operations go on.
-/
import Derived.Test.YtehnnaanpmceiaaGreatDoorSxh
set_option linter.unusedVariables false
set_option linter.unusedSimpArgs false
namespace Go.Sx
open Go.RowKit

section
variable {P : Program} {gl : List (Nat × Vw)} {base : Nat} {ops : Array Oper} {F : List Nat} {kt : Nat} {m : Nat} {l : List (Option SV)} {hp : List (Option Vw)} {res : List ERn} {L : Nat → Bool} {θ : Th} {T : Array Value} {w : World} {rx : Rx} {fn : FuncId} {k0 : List Item} {cs : List Frame}

structure InvB (P : Program) (gl : List (Nat × Vw)) (base : Nat) (ops : Array Oper) (F : List Nat) (res : List ERn) (l : List (Option SV)) (hp : List (Option Vw)) (L : Nat → Bool) (θ : Th) (T : Array Value) (w : World) : Prop where
  pre : Pre P gl base θ l hp T w
  fl : ∀ p, p ∈ F → L p = true → ∀ d, dstOf ops p = some d → d < l.length → ∀ r, res[p]? = some r → ∀ θ', Same hp.length θ θ' → T[d]? = some (den θ' r.v)
  msk : ∀ p d, p ∈ F → dstOf ops p = some d → ∀ v, l[d]? ≠ some (some v)

/-- What 'stab' tells of one of them. -/
structure Float (P : Program) (gl : List (Nat × Vw)) (ops : Array Oper) (res : List ERn) (l : List (Option SV)) (hp : List (Option Vw)) (F0 : List Nat) (p : Nat) : Prop where
  ex : ∃ o r qs, ops[p]? = some o ∧ res[p]? = some r ∧ o.guard = none ∧ r.news = [] ∧ sxV P gl (slotF ops res (lateL F0 o) l) hp [] o.op = some (qs, [], r.v) ∧ AllP qs

theorem stab_float {F0 : List Nat} : ∀ {F : List Nat} {ps : List Prop}, stab P gl ops res l hp F0 F = some ps → AllP ps → ∀ p, p ∈ F → Float P gl ops res l hp F0 p
  | [], ps, h, hps, p, hp' => by cases hp'
  | q :: F, ps, h, hps, p, hp' => by
    simp only [stab] at h
    split at h
    · rename_i o r ho hr
      split at h
      · rename_i hg
        simp only [Bool.and_eq_true, Option.isNone_iff_eq_none, List.isEmpty_iff] at hg
        split at h
        · rename_i qs v hv
          split at h
          · rename_i rs hrs
            simp only [Option.some.injEq] at h
            subst h
            obtain ⟨rfl, h2⟩ := hps
            obtain ⟨h3, h4⟩ := AllP_append h2
            rcases List.mem_cons.1 hp' with rfl | h5
            · exact ⟨o, r, qs, ho, hr, hg.1, hg.2, hv, h3⟩
            · exact stab_float hrs h4 p h5
          · cases h
        · cases h
      · cases h
    · cases h

theorem wanted_none {o : Oper} {y : Nat → Option Bool} (h : o.guard = none) : Region.wanted o y = true := by unfold Region.wanted; rw [h]

theorem slotF_length : ∀ (F : List Nat) (l : List (Option SV)), (slotF ops res F l).length = l.length
  | [], l => rfl
  | p :: F, l => by
    simp only [slotF]
    split
    · rw [slotF_length F]; simp
    · exact slotF_length F l

theorem slotF_get : ∀ {F : List Nat} {l : List (Option SV)} {j : Nat} {v : SV}, (slotF ops res F l)[j]? = some (some v) → (∃ p, p ∈ F ∧ ∃ r, dstOf ops p = some j ∧ j < l.length ∧ res[p]? = some r ∧ r.v = v) ∨ l[j]? = some (some v)
  | [], l, j, v, h => .inr h
  | p :: F, l, j, v, h => by
    simp only [slotF] at h
    split at h
    · rename_i d r hd hr
      rcases slotF_get h with ⟨q, hq, r', h1, h2, h3⟩ | h1
      · exact .inl ⟨q, List.mem_cons_of_mem _ hq, r', h1, by simpa using h2, h3⟩
      · rw [List.getElem?_set] at h1
        split at h1
        · rename_i he
          subst he
          split at h1
          · rename_i hlt
            simp only [Option.some.injEq] at h1
            exact .inl ⟨p, List.mem_cons_self, r, hd, hlt, hr, h1⟩
          · cases h1
        · exact .inr h1
    · rcases slotF_get h with ⟨q, hq, r', h1⟩ | h1
      · exact .inl ⟨q, List.mem_cons_of_mem _ hq, r', h1⟩
      · exact .inr h1

theorem InvB.known {F' : List Nat} (hI : InvB P gl base ops F res l hp L θ T w) (hs : ∀ q, q ∈ F' → q ∈ F ∧ L q = true) : Pre P gl base θ (slotF ops res F' l) hp T w := by
  refine ⟨fun θ' hs' => ⟨(hI.pre.inv θ' hs').1, ?_, fun j v hj => ?_⟩, hI.pre.kn, hI.pre.gok, hI.pre.gb, hI.pre.sz⟩
  · rw [slotF_length]; exact (hI.pre.inv θ' hs').2.1
  · rcases slotF_get hj with ⟨p, hp', r, h1, h2, h3, rfl⟩ | h
    · obtain ⟨h4, h5⟩ := hs p hp'
      exact hI.fl p h4 h5 j h1 h2 r h3 θ' hs'
    · exact (hI.pre.inv θ' hs').2.2 j v h

/-- One that comes late. -/
theorem InvB.float {p : Nat} {rest : List Nat} (hI : InvB P gl base ops F res l hp L θ T w) (he : edgesOk ops m F kt = true) (hF : ∀ p, p ∈ F → p < m) (hp' : p ∈ F) (hf : Float P gl ops res l hp F p) (hneed : ∀ o, ops[p]? = some o → ∀ q, q ∈ needsL o → L q = true) :
    ∃ T' w', Steps P (lone (mkFr rx fn T (.inRegion ops (p :: rest) :: k0)) cs w) (lone (mkFr rx fn T' (.inRegion ops rest :: k0)) cs w') ∧ Below base w w' ∧ InvB P gl base ops F res l hp (fun q => q == p || L q) θ T' w' := by
  obtain ⟨o, r, qs, ho, hr, hg, hn, hv, hqs⟩ := hf.ex
  have hdst : dstOf ops p = o.dst := by unfold dstOf; rw [ho]; rfl
  obtain ⟨rv, w', nw, hrun, hbel, -, hfin⟩ := sxV_after (ds := []) (hs := []) (o := o) (ps := qs) (hs' := []) (e := .val r.v hp) (hI.known (F' := lateL F o) (fun q hq => by
    obtain ⟨h1, h2⟩ := List.mem_filter.1 hq
    exact ⟨h1, hneed o ho q (List.contains_iff_mem.1 h2)⟩)) (by rw [hv]; rfl) hqs
  have hst := stepM_value (P := P) (rx := rx) (fn := fn) (T := T) (k := k0) (cs := cs) (rest := rest) ho (wanted_none hg) hrun
  have hfin' : ∀ θ', Same hp.length θ θ' → HpOk θ' base hp w' ∧ rv = den θ' r.v := fun θ' hs => hfin θ' hs (fun k hk => by omega)
  refine ⟨_, w', .one hst, hbel, ⟨⟨fun θ' hs => ⟨(hfin' θ' hs).1, by rw [put_size]; exact (hI.pre.inv θ' hs).2.1, fun j v hj => ?_⟩, hI.pre.kn, hI.pre.gok.below hI.pre.gb hbel, hI.pre.gb, Nat.le_trans hI.pre.sz hbel.size⟩, fun q hq hLq d hd hdl r' hr' θ' hs => ?_, hI.msk⟩⟩
  · rw [put_get, if_neg]
    · exact (hI.pre.inv θ' hs).2.2 j v hj
    · intro e
      exact hI.msk p j hp' (by rw [hdst]; exact e) v hj
  · by_cases hqp : q = p
    · subst hqp
      rw [hr] at hr'; cases hr'
      rw [put_get, if_pos (by rw [← hdst]; exact hd), if_pos (by rw [(hI.pre.inv θ (Same.refl _ _)).2.1]; exact hdl), (hfin' θ' hs).2]
    · have hLq' : L q = true := by simpa [hqp] using hLq
      rw [put_get, if_neg (by rw [← hdst]; exact dst_ne he (hF q hq) (hF p hp') hqp hd)]
      exact hI.fl q hq hLq' d hd hdl r' hr' θ' hs

/-- One of those behind. -/
theorem InvB.tail {i : Nat} {o : Oper} {rest : List Nat} {ps : List Prop} {hs hs' : List Hint} {hp' : List (Option Vw)} (hI : InvB P gl base ops F res l hp L θ T w) (ho : ops[i]? = some o) (hg : o.guard = none) (hd : o.dst = none)
    (hx : sxOp P gl l hp hs o.op = some (ps, hs', .skip hp')) (hps : AllP ps) :
    hp.length = hp'.length ∧ ∃ w', Steps P (lone (mkFr rx fn T (.inRegion ops (i :: rest) :: k0)) cs w) (lone (mkFr rx fn T (.inRegion ops rest :: k0)) cs w') ∧ Below base w w' ∧ InvB P gl base ops F res l hp' L θ T w' := by
  obtain ⟨w', hrun, hbel, hlen, hfin⟩ := sxOp_after (ds := []) hI.pre hx hps
  have hst := stepM_skip (P := P) (rx := rx) (fn := fn) (T := T) (k := k0) (cs := cs) (rest := rest) ho (wanted_none hg) hrun
  have hput : (Act.mk T []).put o.dst undef = ⟨T, []⟩ := by rw [hd]; rfl
  rw [hput] at hst
  refine ⟨hlen, w', .one hst, hbel, ⟨⟨fun θ' hs => ?_, fun t v ht => (List.getElem?_eq_some_iff.1 ht).1, hI.pre.gok.below hI.pre.gb hbel, hI.pre.gb, Nat.le_trans hI.pre.sz hbel.size⟩, fun p hp2 hLp d hd' hdl r hr θ' hs => ?_, hI.msk⟩⟩
  · rw [← hlen] at hs
    exact ⟨hfin θ' hs, (hI.pre.inv θ' hs).2⟩
  · rw [← hlen] at hs
    exact hI.fl p hp2 hLp d hd' hdl r hr θ' hs

theorem InvB.congr {L' : Nat → Bool} (h : ∀ p, p ∈ F → L' p = true → L p = true) (hI : InvB P gl base ops F res l hp L θ T w) : InvB P gl base ops F res l hp L' θ T w :=
  ⟨hI.pre, fun p hp' hL => hI.fl p hp' (h p hp' hL), hI.msk⟩

theorem least {L : Nat → Bool} : ∀ (c : Nat), (∀ q, q < c → L q = true) ∨ ∃ e, e < c ∧ L e = false ∧ ∀ q, q < e → L q = true
  | 0 => .inl (fun q hq => by omega)
  | c + 1 => by
    rcases least (L := L) c with h | ⟨e, h1, h2, h3⟩
    · cases hb : L c with
      | true => exact .inl (fun q hq => by rcases Nat.lt_or_ge q c with h4 | h4; exact h q h4; rw [show q = c by omega]; exact hb)
      | false => exact .inr ⟨c, by omega, hb, h⟩
    · exact .inr ⟨e, by omega, h2, h3⟩

theorem getD_tf {L : Array Bool} {q N : Nat} (hs : L.size = N) (hq : q < N) : L.getD q true = L.getD q false := by
  simp [Array.getD_eq_getD_getElem?, Array.getElem?_eq_getElem (show q < L.size by omega)]

theorem ready_of {L : Array Bool} {e : Nat} (he : edgesOk ops m F kt = true) (hs : L.size = ops.size) (h1 : e < ops.size) (h2 : L.getD e false = false) (h3 : ∀ q, q < e → L.getD q false = true) : e ∈ Region.ready .any ops L := by
  have ho : ops[e]? = some (ops[e]'h1) := Array.getElem?_eq_getElem _
  exact mem_ready'.2 ⟨_, ho, by rw [getD_tf hs h1]; exact h2, fun q hq => h3 q (edges_lt he ho hq)⟩

theorem count_of {L : Array Bool} {n c : Nat} (hs : L.size = ops.size) (hc0 : c ≤ ops.size) (hc : L.toList.count false = n) (h : ∀ q, q < ops.size → (L.getD q false = true ↔ q < c)) : c + n = ops.size := by
  have h1 : L.toList = List.replicate c true ++ List.replicate (ops.size - c) false := by
    apply List.ext_getElem?
    intro q
    rw [List.getElem?_append]
    simp only [List.length_replicate, List.getElem?_replicate]
    by_cases hq2 : q < ops.size
    · have h4 : L.toList[q]? = some (L.getD q false) := by
        simp [Array.getD_eq_getD_getElem?, Array.getElem?_eq_getElem (show q < L.size by omega)]
      rw [h4]
      have h5 := h q hq2
      split
      · rename_i hq; rw [h5.2 hq]
      · rename_i hq
        rw [if_pos (by omega)]
        cases hb : L.getD q false with
        | false => rfl
        | true => exact absurd (h5.1 hb) hq
    · rw [List.getElem?_eq_none (by simp; omega), if_neg (by omega), if_neg (by omega)]
  rw [h1] at hc
  simp [List.count_replicate] at hc
  omega

theorem late_done (he : edgesOk ops m F kt = true) {n : Nat} {L : Array Bool} {σ : List Nat} (hs : L.size = ops.size) (hc : L.toList.count false = n) (hv : VS ops n L σ) (hall : ∀ q, q < m + kt → L.getD q false = true) (h2 : ∀ q, m + kt ≤ q → L.getD q false = false) :
    σ = List.range' (m + kt) (ops.size - (m + kt)) := by
  have hms : m + kt ≤ ops.size := by simp only [edgesOk, Bool.and_eq_true, decide_eq_true_eq] at he; exact he.2
  have hiff : ∀ q, q < ops.size → (L.getD q false = true ↔ q < m + kt) := fun q hq => by
    constructor
    · intro h
      rcases Nat.lt_or_ge q (m + kt) with h3 | h3
      · exact h3
      · rw [h2 q h3] at h; cases h
    · exact hall q
  have hcnt := count_of hs hms hc hiff
  have := vs_tail he n (m + kt) L σ (Nat.le_refl _) hcnt hs (fun q => by
    rcases Nat.lt_or_ge q ops.size with hq | hq
    · rw [getD_tf hs hq, hiff q hq]; omega
    · simp [Array.getD_eq_getD_getElem?, Array.getElem?_eq_none (show L.size ≤ q by omega)]; omega) hv
  rw [this, show ops.size - (m + kt) = n by omega]

theorem false_mem {L : Array Bool} {e : Nat} (h1 : e < L.size) (h2 : L.getD e false = false) : L.toList.count false ≠ 0 := by
  have h3 : L[e] = false := by simpa [Array.getD_eq_getD_getElem?, Array.getElem?_eq_getElem h1] using h2
  have h4 : false ∈ L.toList := by rw [← h3]; simp
  have := List.count_pos_iff.2 h4
  omega

theorem run_late (he : edgesOk ops m F kt = true) (hF : ∀ p, p ∈ F → p < m) : ∀ (n : Nat) (L : Array Bool) (σ : List Nat) (j : Nat) (hp : List (Option Vw)) (hs : List Hint) (T : Array Value) (w : World) (qs : List Prop) (hs' : List Hint) (hp2 : List (Option Vw)),
    j ≤ kt → L.size = ops.size → L.toList.count false = n → VS ops n L σ → (∀ q, q < m → q ∉ F → L.getD q false = true) → (∀ q, m ≤ q → (L.getD q false = true ↔ q < m + j)) →
    (∀ q oq p, L.getD q false = true → ops[q]? = some oq → p ∈ needsL oq → L.getD p false = true) →
    evalB P gl ops F res (kt - j) (m + j) l hp hs = some (qs, hs', hp2) → AllP qs → (∀ p, p ∈ F → Float P gl ops res l hp F p) → InvB P gl base ops F res l hp (fun q => L.getD q false) θ T w →
    hp.length = hp2.length ∧ ∃ T' w', Steps P (lone (mkFr rx fn T (.inRegion ops σ :: k0)) cs w) (lone (mkFr rx fn T' (.inRegion ops (List.range' (m + kt) (ops.size - (m + kt))) :: k0)) cs w') ∧ Below base w w' ∧ InvB P gl base ops F res l hp2 (fun _ => true) θ T' w' := by
  have hms : m + kt ≤ ops.size := by simp only [edgesOk, Bool.and_eq_true, decide_eq_true_eq] at he; exact he.2
  have hend : ∀ (n : Nat) (L : Array Bool) (σ : List Nat) (j : Nat) (hp : List (Option Vw)) (hs : List Hint) (T : Array Value) (w : World) (qs : List Prop) (hs' : List Hint) (hp2 : List (Option Vw)),
    j ≤ kt → L.size = ops.size → L.toList.count false = n → VS ops n L σ → (∀ q, m ≤ q → (L.getD q false = true ↔ q < m + j)) →
    evalB P gl ops F res (kt - j) (m + j) l hp hs = some (qs, hs', hp2) → InvB P gl base ops F res l hp (fun q => L.getD q false) θ T w → (∀ q, q < m + kt → L.getD q false = true) →
    hp.length = hp2.length ∧ ∃ T' w', Steps P (lone (mkFr rx fn T (.inRegion ops σ :: k0)) cs w) (lone (mkFr rx fn T' (.inRegion ops (List.range' (m + kt) (ops.size - (m + kt))) :: k0)) cs w') ∧ Below base w w' ∧ InvB P gl base ops F res l hp2 (fun _ => true) θ T' w' := by
    intro n L σ j hp hs T w qs hs' hp2 hj hsz hc hv h2 hev hI hall
    have hjk : j = kt := by
      rcases Nat.lt_or_ge j kt with h | h
      · have := (h2 (m + j) (by omega)).1 (hall (m + j) (by omega)); omega
      · omega
    subst hjk
    rw [Nat.sub_self] at hev
    simp only [evalB, Option.some.injEq, Prod.mk.injEq] at hev
    obtain ⟨-, -, rfl⟩ := hev
    have hσ := late_done he hsz hc hv hall (fun q hq => by
      cases hb : L.getD q false with
      | false => rfl
      | true => have := (h2 q (by omega)).1 hb; omega)
    subst hσ
    exact ⟨rfl, T, w, .refl _ _, Below.refl _ _, hI.congr (fun p hp' _ => hall p (by have := hF p hp'; omega))⟩
  intro n
  induction n with
  | zero =>
    intro L σ j hp hs T w qs hs' hp2 hj hsz hc hv h1 h2 hcl hev hqs hfl hI
    rcases least (L := fun q => L.getD q false) (m + kt) with hall | ⟨e, e1, e2, e3⟩
    · exact hend _ L σ j hp hs T w qs hs' hp2 hj hsz hc hv h2 hev hI hall
    · exact absurd hc (false_mem (e := e) (by omega) e2)
  | succ n ih =>
    intro L σ j hp hs T w qs hs' hp2 hj hsz hc hv h1 h2 hcl hev hqs hfl hI
    rcases least (L := fun q => L.getD q false) (m + kt) with hall | ⟨e, e1, e2, e3⟩
    · exact hend _ L σ j hp hs T w qs hs' hp2 hj hsz hc hv h2 hev hI hall
    · have her := ready_of he hsz (by omega) e2 e3
      rcases hv with ⟨h3, -⟩ | ⟨i, σ', h3, rfl, h4⟩
      · rw [h3] at her; cases her
      · obtain ⟨o, ho, h5, h6⟩ := mem_ready'.1 h3
        have hil := (Array.getElem?_eq_some_iff.1 ho).1
        rw [getD_tf hsz hil] at h5
        have hset : ∀ q, (L.setIfInBounds i true).getD q false = true ↔ (q = i ∨ L.getD q false = true) := fun q => by
          rw [getD_set _ _ _ _ (by omega)]
          by_cases hq : q = i
          · simp [hq]
          · simp [hq]
        have hfun : (fun q => (L.setIfInBounds i true).getD q false) = (fun q => q == i || L.getD q false) := funext fun q => by
          rw [getD_set _ _ _ _ (by omega)]
          by_cases hq : q = i
          · subst hq; simp
          · simp [hq]
        have hcl' : ∀ q oq p, (L.setIfInBounds i true).getD q false = true → ops[q]? = some oq → p ∈ needsL oq → (L.setIfInBounds i true).getD p false = true := fun q oq p hq hoq hp' => by
          rw [hset] at hq ⊢
          rcases hq with rfl | hq
          · rw [ho] at hoq; cases hoq; exact .inr (h6 p hp')
          · exact .inr (hcl q oq p hq hoq hp')
        have htl : m ≤ i → ∀ q, q < i → (decide (i < m + kt) && F.contains q) = false → L.getD q false = true := fun hmi q hq hf =>
          edges_tail (L := fun q => L.getD q false) he ho hmi hcl h6 _ q hq (Nat.le_refl _) hf
        rcases Nat.lt_or_ge i m with him | him
        · -- one that comes late
          have hiF : i ∈ F := by
            by_cases h : i ∈ F
            · exact h
            · rw [h1 i him h] at h5; cases h5
          obtain ⟨T1, w1, hst, hb1, hI1⟩ := hI.float (fn := fn) (k0 := k0) (cs := cs) (rest := σ') he hF hiF (hfl i hiF) (fun o' ho' q hq => by rw [ho] at ho'; cases ho'; exact h6 q hq)
          rw [← hfun] at hI1
          obtain ⟨hl, T2, w2, hst2, hb2, hI2⟩ := ih (L.setIfInBounds i true) σ' j hp hs T1 w1 qs hs' hp2 hj (by simp [hsz]) (count_set hsz hil h5 hc) h4 (fun q hq hqF => (hset q).2 (.inr (h1 q hq hqF)))
            (fun q hq => by rw [hset]; constructor
                            · rintro (h | h)
                              · omega
                              · exact (h2 q hq).1 h
                            · intro h; exact .inr ((h2 q hq).2 h)) hcl' hev hqs hfl hI1
          exact ⟨hl, T2, w2, hst.trans hst2, hb1.trans hb2, hI2⟩
        · rcases Nat.lt_or_ge i (m + kt) with hik | hik
          · have hij : i = m + j := by
              rcases Nat.lt_trichotomy i (m + j) with h | h | h
              · rw [(h2 i him).2 h] at h5; cases h5
              · exact h
              · have h7 := htl him (m + j) h (by
                  rw [show F.contains (m + j) = false by
                    rw [← Bool.not_eq_true, List.contains_iff_mem]; intro h8; have := hF _ h8; omega]; simp)
                have := (h2 (m + j) (by omega)).1 h7
                omega
            subst hij
            rw [show kt - j = (kt - (j + 1)) + 1 by omega] at hev
            simp only [evalB, ho] at hev
            split at hev
            · rename_i hg
              simp only [Bool.and_eq_true, Option.isNone_iff_eq_none] at hg
              split at hev
              · rename_i ps1 hs1 hp1 hx
                split at hev
                · rename_i qs1 rs1 hs2 hp3 hst1 hev1
                  simp only [Option.some.injEq, Prod.mk.injEq] at hev
                  obtain ⟨rfl, rfl, rfl⟩ := hev
                  obtain ⟨g1, g2⟩ := AllP_append hqs
                  obtain ⟨g3, g4⟩ := AllP_append g2
                  obtain ⟨hl, w1, hst, hb1, hI1⟩ := hI.tail (fn := fn) (k0 := k0) (cs := cs) (rest := σ') ho hg.1 hg.2 hx g1
                  have hI1' : InvB P gl base ops F res l hp1 (fun q => (L.setIfInBounds (m + j) true).getD q false) θ T w1 := hI1.congr (fun p hp' h => by
                    rcases (hset p).1 h with h | h
                    · have := hF p hp'; omega
                    · exact h)
                  obtain ⟨hl2, T2, w2, hst2, hb2, hI2⟩ := ih (L.setIfInBounds (m + j) true) σ' (j + 1) hp1 hs1 T w1 rs1 hs2 hp3 (by omega) (by simp [hsz]) (count_set hsz hil h5 hc) h4 (fun q hq hqF => (hset q).2 (.inr (h1 q hq hqF)))
                    (fun q hq => by rw [hset, h2 q hq]; omega) hcl' hev1 g4 (stab_float hst1 g3) hI1'
                  exact ⟨hl.trans hl2, T2, w2, hst.trans hst2, hb1.trans hb2, hI2⟩
                · cases hev
              · cases hev
            · cases hev
          · have := htl him e (by omega) (by rw [show decide (i < m + kt) = false by rw [decide_eq_false_iff_not]; omega]; rfl)
            rw [e2] at this; cases this

/-- The whole region's open part, and what may come late, is one step. -/
theorem draw_ok {X : Cx} {fr : SFr} {frs : List SFr} {id : Nat} {k : List Item} {hs hs1 hs2 : List Hint} {ps qs rs : List Prop} {hp2 : List (Option Vw)}
    (htd : fr.todo = .code (.region id ops true) :: k) (he : edgesOk ops m F kt = true) (hFm : (F.all fun p => decide (p < m)) = true) (hmix : X.P.follows .mixedOrders = true) (hev : evalE X.P X.gl ops m fr.tmps hp m [] hs = some (ps, hs1, res)) (hps : AllP ps)
    (hstab : stab X.P X.gl ops res (slotS ops res (fun q => !F.contains q) (fun _ => false) m fr.tmps) (heapS hp res (fun _ => true)) F F = some qs) (hqs : AllP qs)
    (hB : evalB X.P X.gl ops F res kt m (slotS ops res (fun q => !F.contains q) (fun _ => false) m fr.tmps) (heapS hp res (fun _ => true)) hs1 = some (rs, hs2, hp2)) (hrs : AllP rs)
    (hk : Ok X ⟨{ fr with tmps := slotF ops res F (slotS ops res (fun q => !F.contains q) (fun _ => false) m fr.tmps), todo := .inRegion ops (List.range' (m + kt) (ops.size - (m + kt))) :: k } :: frs, hp2⟩) : Ok X ⟨fr :: frs, hp⟩ := by
  have hF : ∀ p, p ∈ F → p < m := fun p hp' => by simpa using List.all_eq_true.1 hFm p hp'
  have hfl := stab_float hstab hqs
  have htab : ∀ i, i < m → TabAt X.P X.gl ops m fr.tmps hp res i := fun i hi => evalE_tab hev hps i (by simp) (by simpa using hi)
  have hlen : res.length = m := by
    obtain ⟨s, h1, h2⟩ := evalE_prefix hev
    rw [h1]; simpa using h2
  have ha := ancOk he htab
  have hms : m + kt ≤ ops.size := by simp only [edgesOk, Bool.and_eq_true, decide_eq_true_eq] at he; exact he.2
  intro θ fr0 ms w hh
  obtain ⟨T, rfl, hpre, hrest⟩ := hh.pre
  obtain ⟨σ, hσ1, hσ2⟩ := lin_vs (ops := ops) ops.size (w.tape w.drawn (.order fr.fn id)) (Array.replicate ops.size false) []
  have hsch : Region.schedule (X.P.follows .mixedOrders) ops (w.tape w.drawn (.order fr.fn id)) = σ := by
    unfold Region.schedule
    rw [hmix]
    simp only [Bool.true_or, if_true]
    unfold Region.linearise
    rw [hσ1]; simp
  have hst0 : step X.P (lone (mkFr fr.rx fr.fn T fr.todo) (ms ++ X.cs) w) = .next (lone (mkFr fr.rx fr.fn T (.inRegion ops σ :: k)) (ms ++ X.cs) w.drew) := by
    rw [htd]
    have := stepM_draw (P := X.P) (rx := fr.rx) (fn := fr.fn) (T := T) (k := k) (cs := ms ++ X.cs) (w := w) (ops := ops) (id := id)
    simp only [hsch] at this
    exact this
  have hrep : ∀ q, (Array.replicate ops.size false).getD q false = false := fun q => by
    simp [Array.getD_eq_getD_getElem?, Array.getElem?_replicate]
    split <;> rfl
  have hI0 : InvE X.P X.gl X.base ops m fr.tmps hp res (fun q => (Array.replicate ops.size false).getD q false) θ T w.drew := by
    have hno : ∀ {q : Nat} {α : Prop}, (Array.replicate ops.size false).getD q false = true → α := fun {q} {α} h => by rw [hrep q] at h; cases h
    refine ⟨(hpre.inv θ (Same.refl _ _)).2.1, fun θ' hs => ⟨(hpre.inv θ' hs).1.below ((Below.refl _ _).drew), fun j v hj _ => (hpre.inv θ' hs).2.2 j v hj⟩, fun q r _ h => hno h, fun q q' r r' k k' x x' _ _ h => hno h, fun q r k x _ h => hno h, fun q r _ h => hno h,
      hpre.gok.below hpre.gb ((Below.refl _ _).drew), hpre.gb, hpre.sz⟩
  obtain ⟨n', L', σ', T1, w1, θ', hst, hbel, hsame, hsz, hLm, hcnt, hvs, hI, hhead⟩ := run_open (rx := fr.rx) (fn := fr.fn) (k0 := k) (cs := ms ++ X.cs) he htab _ _ σ θ T w.drew (by simp) (fun q hq => by rw [hrep q] at hq; cases hq) (by simp [List.count_replicate]) hσ2 hI0
  have hcl : ∀ q oq p, L'.getD q false = true → ops[q]? = some oq → p ∈ needsL oq → L'.getD p false = true := fun q oq p hq hoq hp' => by
    have hqm := hLm q hq
    obtain ⟨_, _, _, _, _, rq, _, _, _, hrq, _⟩ := htab q hqm
    exact hI.closed q rq hqm hq hrq p (ha.need q rq oq p hqm hrq hoq hp')
  have hA : ∀ q, q < m → q ∉ F → L'.getD q false = true := fun q hq hqF => by
    cases hb : L'.getD q false with
    | true => rfl
    | false =>
      exfalso
      rcases least (L := fun q => L'.getD q false) m with hall | ⟨e, e1, e2, e3⟩
      · have h8 : L'.getD q false = true := hall q hq
        rw [hb] at h8
        cases h8
      · have her := ready_of he hsz (by omega) e2 e3
        cases n' with
        | zero => exact (false_mem (e := e) (by omega) e2) hcnt
        | succ n' =>
          rcases hvs with ⟨h3, -⟩ | ⟨i, σ2, h3, h4, -⟩
          · rw [h3] at her; cases her
          · obtain ⟨o, ho, -, h6⟩ := mem_ready'.1 h3
            have him := hhead i σ2 h4
            have h7 : L'.getD q false = true := edges_tail (L := fun q => L'.getD q false) he ho him hcl h6 _ q (by omega) (Nat.le_refl _) (by
              rw [show F.contains q = false by rw [← Bool.not_eq_true, List.contains_iff_mem]; exact hqF]; simp)
            rw [hb] at h7
            cases h7
  have hnew : ∀ q r k' x, res[q]? = some r → r.news[k']? = some x → L'.getD q false = true := fun q r k' x h1 h3 => by
    have hq : q < m := by rw [← hlen]; exact (List.getElem?_eq_some_iff.1 h1).1
    by_cases hqF : q ∈ F
    · obtain ⟨o, r2, qs2, -, hr2, -, hn, -⟩ := (hfl q hqF).ex
      rw [h1] at hr2; cases hr2
      rw [hn, List.getElem?_nil] at h3; cases h3
    · exact hA q hq hqF
  have hqm : ∀ q r, res[q]? = some r → q < m := fun q r h => by rw [← hlen]; exact (List.getElem?_eq_some_iff.1 h).1
  have hlt2 : ∀ p, p < m → ∀ t, t < offs hp.length res (p + 1) → t < hp.length + sumN res := fun p hp' t ht => by
    have h4 := sumN_take_mono (res := res) (q := p + 1) (q' := res.length) (by omega)
    rw [List.take_length] at h4
    unfold offs at ht; omega
  have hlt : ∀ q r k' x, res[q]? = some r → r.news[k']? = some x → offs hp.length res q + k' < hp.length + sumN res := fun q r k' x h1 h3 =>
    hlt2 q (hqm q r h1) _ (by rw [offs_succ h1]; have := (List.getElem?_eq_some_iff.1 h3).1; omega)
  have hsA : ∀ q r, res[q]? = some r → ∀ θ2, SameA (fun t => t < hp.length + sumN res) θ' θ2 → SameA (Aq hp.length res r.anc q) θ' θ2 := fun q r h1 θ2 hs2 t ht => hs2 t (by
    rcases ht with ht | ⟨p, h4, -, h5⟩
    · show t < hp.length + sumN res
      omega
    · refine hlt2 p ?_ t h5
      rcases h4 with rfl | h4
      · exact hqm p r h1
      · have := ha.lt q r p (hqm q r h1) h1 h4
        have := hqm q r h1
        omega)
  have hbw : Below X.base w w1 := ((Below.refl X.base w).drew).trans hbel
  have hAl : ∀ t, t ∉ conL res → Alive m res (fun q => L'.getD q false) t := fun t ht i r _ _ hr hc => ht (conL_mem.2 ⟨i, r, hr, hc⟩)
  have hB0 : InvB X.P X.gl X.base ops F res (slotS ops res (fun q => !F.contains q) (fun _ => false) m fr.tmps) (heapS hp res (fun _ => true)) (fun q => L'.getD q false) θ' T1 w1 := by
    refine ⟨⟨fun θ2 hs2 => ?_, fun t v ht => (List.getElem?_eq_some_iff.1 ht).1, hpre.gok.below hpre.gb hbw, hpre.gb, Nat.le_trans hpre.sz hbw.size⟩, fun p hpF hLp d hd hdl r hr θ2 hs2 => ?_, fun p d hpF hd v hv => ?_⟩
    · rw [heapS_length] at hs2
      have hs3 : Same hp.length θ' θ2 := fun t ht => hs2 t (by show t < hp.length + sumN res; omega)
      refine ⟨⟨fun t x ht => ?_, fun t t' x x' ht ht' hne hown hl a a' hb hb' => ?_⟩, ?_, fun j v hj => ?_⟩
      · rcases heapS_get ht with ⟨h1, h2⟩ | ⟨q, r, k', h1, -, h3, hnc, rfl⟩
        · exact (hI.old θ2 hs3).1.vw t x h1
        · rw [hs2 _ (hlt q r k' x h1 h3)]
          exact ((hI.op q r (hqm q r h1) (hnew q r k' x h1 h3) h1 θ2 (hsA q r h1 θ2 hs2)).2 k' x h3 (hAl _ hnc))
      · rcases heapS_get ht with ⟨h1, h2⟩ | ⟨q, r, k', h1, -, h3, hnc, rfl⟩ <;> rcases heapS_get ht' with ⟨g1, g2⟩ | ⟨q', r', k2, g1, -, g3, gnc, rfl⟩
        · exact (hI.old θ2 hs3).1.ne t t' x x' h1 g1 hne hown hl a a' hb hb'
        · rw [hs2 _ (hlt q' r' k2 x' g1 g3)] at hb'
          rw [hs3 _ h2] at hb
          exact fun e => hI.neOld q' r' k2 x' (hqm q' r' g1) (hnew q' r' k2 x' g1 g3) g1 g3 (hAl _ gnc) t x h1 (.inr ⟨hown, hl⟩) a' a hb' hb e.symm
        · rw [hs2 _ (hlt q r k' x h1 h3)] at hb
          rw [hs3 _ g2] at hb'
          exact hI.neOld q r k' x (hqm q r h1) (hnew q r k' x h1 h3) h1 h3 (hAl _ hnc) t' x' g1 (.inl ⟨hown, hl⟩) a a' hb hb'
        · rw [hs2 _ (hlt q r k' x h1 h3)] at hb
          rw [hs2 _ (hlt q' r' k2 x' g1 g3)] at hb'
          refine hI.ne q q' r r' k' k2 x x' (hqm q r h1) (hqm q' r' g1) (hnew q r k' x h1 h3) (hnew q' r' k2 x' g1 g3) h1 g1 h3 g3 ?_ (hAl _ hnc) (hAl _ gnc) hown hl a a' hb hb'
          by_cases hq : q = q'
          · subst hq; exact .inr (fun e => hne (by rw [e]))
          · exact .inl hq
      · rw [slotS_length]; exact hI.size
      · rcases slotS_get hj with ⟨q, r, h1, h2, h3, h4, h5, h6⟩ | ⟨h1, h2⟩
        · have hqF : q ∉ F := fun hq => by
            rw [List.contains_iff_mem.2 hq] at h4; cases h4
          have := (hI.op q r h1 (hA q h1 hqF) h5 θ2 (hsA q r h5 θ2 hs2)).1 j h2 h3
          rw [h6] at this
          exact this
        · exact (hI.old θ2 hs3).2 j v h1 (fun q hq _ => h2 q hq rfl)
    · rw [heapS_length] at hs2
      rw [slotS_length] at hdl
      exact (hI.op p r (hF p hpF) hLp hr θ2 (hsA p r hr θ2 hs2)).1 d hd hdl
    · rcases slotS_get hv with ⟨q, r, h1, h2, h3, h4, h5, h6⟩ | ⟨h1, h2⟩
      · by_cases hqp : q = p
        · subst hqp
          rw [List.contains_iff_mem.2 hpF] at h4; cases h4
        · exact dst_ne he h1 (hF p hpF) hqp h2 hd
      · exact h2 p (hF p hpF) rfl hd
  obtain ⟨hl2, T2, w2, hst2, hb2, hI2⟩ := run_late (rx := fr.rx) (fn := fr.fn) (k0 := k) (cs := ms ++ X.cs) he hF n' L' σ' 0 _ hs1 T1 w1 rs hs2 hp2 (Nat.zero_le _) hsz hcnt hvs hA (fun q hq => ⟨fun h => by have := hLm q h; omega, fun h => by omega⟩) hcl (by simpa using hB) hrs hfl hB0
  have hbw2 : Below X.base w w2 := hbw.trans hb2
  rw [heapS_length] at hl2
  refine Done.steps (.head hst0 (hst.trans hst2)) (hk θ' _ ms w2 ⟨fun θ2 hs2 => ⟨(hI2.pre.inv θ2 hs2).1, .cons ⟨T2, rfl, ?_, fun j v hj => ?_⟩ (hrest θ2 ?_)⟩, hh.old.trans (fun t ht => hsame t (by have := hh.len; simp only at this; omega)), ?_, hh.bel.trans hbw2, Nat.le_trans hh.sz hbw2.size, hh.gok.below hh.gb hbw2, hh.gb⟩)
  · show T2.size = (slotF ops res F _).length
    rw [slotF_length]
    exact (hI2.pre.inv θ' (Same.refl _ _)).2.1
  · rcases slotF_get hj with ⟨p, hpF, r, h1, h2, h3, rfl⟩ | h1
    · exact hI2.fl p hpF rfl j h1 h2 r h3 θ2 hs2
    · exact (hI2.pre.inv θ2 hs2).2.2 j v h1
  · exact fun t ht => by rw [hs2 t (by show t < hp2.length; omega)]; exact hsame t ht
  · show X.n0 ≤ hp2.length
    have := hh.len
    simp only at this
    omega

end

end Go.Sx
