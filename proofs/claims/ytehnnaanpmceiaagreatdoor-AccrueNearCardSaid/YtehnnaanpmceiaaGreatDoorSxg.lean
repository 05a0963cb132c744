/-
  SX, part 16: the open part in whatever order.
-/
import Derived.Test.YtehnnaanpmceiaaGreatDoorSxf
set_option linter.unusedVariables false
set_option linter.unusedSimpArgs false
namespace Go.Sx
open Go.RowKit

/-- The views that operation q of the open part may lean on. -/
def Aq (N : Nat) (res : List ERn) (a : Nat) (q : Nat) (t : Nat) : Prop := t < N ∨ ∃ p, (p = q ∨ a.testBit p = true) ∧ offs N res p ≤ t ∧ t < offs N res (p + 1)
def Ai (N : Nat) (res : List ERn) (a : Nat) (t : Nat) : Prop := t < N ∨ ∃ p, a.testBit p = true ∧ offs N res p ≤ t ∧ t < offs N res (p + 1)

/-- No operation that has come has used the view up. -/
def Alive (m : Nat) (res : List ERn) (L : Nat → Bool) (t : Nat) : Prop := ∀ i r, i < m → L i = true → res[i]? = some r → r.con ≠ some t

structure InvE (P : Program) (gl : List (Nat × Vw)) (base : Nat) (ops : Array Oper) (m : Nat) (l : List (Option SV)) (hp : List (Option Vw)) (res : List ERn) (L : Nat → Bool) (θ : Th) (T : Array Value) (w : World) : Prop where
  size : T.size = l.length
  old : ∀ θ', Same hp.length θ θ' → HpOk θ' base hp w ∧ ∀ (j : Nat) (v : SV), l[j]? = some (some v) → (∀ q, q < m → L q = true → dstOf ops q ≠ some j) → T[j]? = some (den θ' v)
  op : ∀ q r, q < m → L q = true → res[q]? = some r → ∀ θ', SameA (Aq hp.length res r.anc q) θ θ' → (∀ d, dstOf ops q = some d → d < l.length → T[d]? = some (den θ' r.v)) ∧
    ∀ k x, r.news[k]? = some x → Alive m res L (offs hp.length res q + k) → VwOk θ' base w (θ (offs hp.length res q + k)) x
  ne : ∀ q q' r r' k k' x x', q < m → q' < m → L q = true → L q' = true → res[q]? = some r → res[q']? = some r' → r.news[k]? = some x → r'.news[k']? = some x' → (q ≠ q' ∨ k ≠ k') → Alive m res L (offs hp.length res q + k) → Alive m res L (offs hp.length res q' + k') → x.own = true → (x'.own = true ∨ x'.live) →
    ∀ a a', (θ (offs hp.length res q + k)).base = some a → (θ (offs hp.length res q' + k')).base = some a' → a.block ≠ a'.block
  neOld : ∀ q r k x, q < m → L q = true → res[q]? = some r → r.news[k]? = some x → Alive m res L (offs hp.length res q + k) → ∀ t x', hp[t]? = some (some x') → ((x.own = true ∧ (x'.own = true ∨ x'.live)) ∨ (x'.own = true ∧ (x.own = true ∨ x.live))) → ∀ a a', (θ (offs hp.length res q + k)).base = some a → (θ t).base = some a' → a.block ≠ a'.block
  closed : ∀ q r, q < m → L q = true → res[q]? = some r → ∀ p, r.anc.testBit p = true → L p = true
  gok : GOk gl w
  gb : ∀ g v, (g, v) ∈ gl → g < base
  sz : base ≤ w.heap.size

section
variable {P : Program} {gl : List (Nat × Vw)} {base : Nat} {ops : Array Oper} {F : List Nat} {kt : Nat} {m : Nat} {l : List (Option SV)} {hp : List (Option Vw)} {res : List ERn} {L : Nat → Bool} {θ : Th} {T : Array Value} {w : World} {rx : Rx} {fn : FuncId} {k0 : List Item} {cs : List Frame}

theorem edges_lt {i j : Nat} {o : Oper} (h : edgesOk ops m F kt = true) (ho : ops[i]? = some o) (hj : j ∈ needsL o) : j < i := by
  simp only [edgesOk, Bool.and_eq_true] at h
  have := List.all_eq_true.1 h.1.1 i (List.mem_range.2 (Array.getElem?_eq_some_iff.1 ho).1)
  simp only [ho, Bool.and_eq_true] at this
  simpa using List.all_eq_true.1 this.1 j hj

theorem edges_tail {i : Nat} {o : Oper} {L : Nat → Bool} (h : edgesOk ops m F kt = true) (ho : ops[i]? = some o) (hm : m ≤ i) (hc : ∀ q oq j, L q = true → ops[q]? = some oq → j ∈ needsL oq → L j = true) (hn : ∀ j, j ∈ needsL o → L j = true) :
    ∀ d j, j < i → i - j ≤ d → (decide (i < m + kt) && F.contains j) = false → L j = true := by
  simp only [edgesOk, Bool.and_eq_true] at h
  have := List.all_eq_true.1 h.1.1 i (List.mem_range.2 (Array.getElem?_eq_some_iff.1 ho).1)
  simp only [ho] at this
  rw [Bool.and_eq_true, Bool.or_eq_true, decide_eq_true_eq] at this
  rcases this.2 with h1 | h1
  · omega
  · intro d
    induction d with
    | zero => intro j hj hd; omega
    | succ d ih =>
      intro j hj hd hf
      have h2 := List.all_eq_true.1 h1 j (List.mem_range.2 hj)
      rw [Bool.or_eq_true, Bool.or_eq_true] at h2
      rcases h2 with h2 | h2 | h2
      · rw [hf] at h2; cases h2
      · exact hn j (List.contains_iff_mem.1 h2)
      · obtain ⟨k, hk, h3⟩ := List.any_eq_true.1 h2
        rw [List.mem_range] at hk
        rw [Bool.and_eq_true, Bool.and_eq_true, decide_eq_true_eq, Bool.not_eq_true'] at h3
        have hk' := ih k hk (by omega) h3.2
        have h4 := h3.1.2
        unfold waits at h4
        split at h4
        · rename_i ok hok
          exact hc k ok j hk' hok (List.contains_iff_mem.1 h4)
        · cases h4

theorem edges_dst {i j d : Nat} (h : edgesOk ops m F kt = true) (hi : i < m) (hj : j < i) (h1 : dstOf ops i = some d) : dstOf ops j ≠ some d := by
  simp only [edgesOk, Bool.and_eq_true] at h
  have := List.all_eq_true.1 h.1.2 i (List.mem_range.2 hi)
  have := List.all_eq_true.1 this j (List.mem_range.2 hj)
  intro h2
  rw [h1, h2] at this
  simp at this

theorem dst_ne {i j d : Nat} (h : edgesOk ops m F kt = true) (hi : i < m) (hj : j < m) (hne : i ≠ j) (h1 : dstOf ops i = some d) : dstOf ops j ≠ some d := by
  rcases Nat.lt_or_gt_of_ne hne with h2 | h2
  · intro h3; exact edges_dst h hj h2 h3 h1
  · exact edges_dst h hi h2 h1

/-- What the ancestors are: those needed, and theirs. -/
structure AncOk (ops : Array Oper) (m : Nat) (res : List ERn) : Prop where
  lt : ∀ i r p, i < m → res[i]? = some r → r.anc.testBit p = true → p < i
  need : ∀ i r o j, i < m → res[i]? = some r → ops[i]? = some o → j ∈ needsL o → r.anc.testBit j = true
  trans : ∀ i r p r' q, i < m → res[i]? = some r → r.anc.testBit p = true → res[p]? = some r' → r'.anc.testBit q = true → r.anc.testBit q = true
  bit : ∀ i r p, i < m → res[i]? = some r → r.anc.testBit p = true → ∃ o j, ops[i]? = some o ∧ j ∈ needsL o ∧ (p = j ∨ ∃ r', res[j]? = some r' ∧ r'.anc.testBit p = true)

theorem take_get {i j : Nat} {r : ERn} (h : (res.take i)[j]? = some r) : j < i ∧ res[j]? = some r := by
  rw [List.getElem?_take] at h
  split at h
  · rename_i hlt; exact ⟨hlt, h⟩
  · cases h

theorem ancOk (h : edgesOk ops m F kt = true) (htab : ∀ i, i < m → TabAt P gl ops m l hp res i) : AncOk ops m res := by
  have hbit : ∀ i r p, i < m → res[i]? = some r → (r.anc.testBit p = true ↔ ∃ o j, ops[i]? = some o ∧ j ∈ needsL o ∧ (p = j ∨ ∃ r', res[j]? = some r' ∧ r'.anc.testBit p = true)) := by
    intro i r p hi hr
    obtain ⟨o, hs, ps, hs1, g, r', ho, hg, hps, hr', hanc, -⟩ := htab i hi
    rw [hr] at hr'; cases hr'
    rw [hanc, testBit_ancOf]
    constructor
    · rintro ⟨j, hj, h1⟩
      refine ⟨o, j, ho, hj, h1.imp id ?_⟩
      rintro ⟨r', h2, h3⟩
      exact ⟨r', (take_get h2).2, h3⟩
    · rintro ⟨o', j, ho', hj, h1⟩
      rw [ho] at ho'; cases ho'
      refine ⟨j, hj, h1.imp id ?_⟩
      rintro ⟨r', h2, h3⟩
      exact ⟨r', by rw [List.getElem?_take, if_pos (edges_lt h ho hj)]; exact h2, h3⟩
  have hlt : ∀ i r p, i < m → res[i]? = some r → r.anc.testBit p = true → p < i := by
    intro i
    induction i using Nat.strongRecOn with
    | _ i ih =>
      intro r p hi hr hp
      obtain ⟨o, j, ho, hj, h1⟩ := (hbit i r p hi hr).1 hp
      have hji := edges_lt h ho hj
      rcases h1 with rfl | ⟨r', h2, h3⟩
      · exact hji
      · have := ih j hji r' p (by omega) h2 h3
        omega
  refine ⟨hlt, fun i r o j hi hr ho hj => (hbit i r j hi hr).2 ⟨o, j, ho, hj, .inl rfl⟩, ?_, fun i r p hi hr hp => (hbit i r p hi hr).1 hp⟩
  intro i
  induction i using Nat.strongRecOn with
  | _ i ih =>
    intro r p r' q hi hr hp hr' hq
    obtain ⟨o, j, ho, hj, h1⟩ := (hbit i r p hi hr).1 hp
    have hji := edges_lt h ho hj
    rcases h1 with rfl | ⟨r2, h2, h3⟩
    · exact (hbit i r q hi hr).2 ⟨o, p, ho, hj, .inr ⟨r', hr', hq⟩⟩
    · exact (hbit i r q hi hr).2 ⟨o, j, ho, hj, .inr ⟨r2, h2, ih j hji r2 p r' q (by omega) h2 h3 hr' hq⟩⟩

theorem offs_le {N : Nat} {q q' : Nat} (h : q ≤ q') : offs N res q ≤ offs N res q' := by
  have := sumN_take_mono (res := res) h
  unfold offs; omega

theorem offs_succ {N : Nat} {q : Nat} {r : ERn} (h : res[q]? = some r) : offs N res (q + 1) = offs N res q + r.news.length := by
  have := sumN_take_succ h
  unfold offs; omega

theorem offs_uniq {N p q t : Nat} (h1 : offs N res p ≤ t) (h2 : t < offs N res (p + 1)) (h3 : offs N res q ≤ t) (h4 : t < offs N res (q + 1)) : p = q := by
  rcases Nat.lt_trichotomy p q with h | h | h
  · have := offs_le (res := res) (N := N) (show p + 1 ≤ q from h); omega
  · exact h
  · have := offs_le (res := res) (N := N) (show q + 1 ≤ p from h); omega

/-- What an operation sees, nobody has used up. -/
theorem seen_alive {i q k : Nat} {r r' : ERn} (hclosed : ∀ q r, q < m → L q = true → res[q]? = some r → ∀ p, r.anc.testBit p = true → L p = true) (htab : ∀ i, i < m → TabAt P gl ops m l hp res i) (ha : AncOk ops m res) (hi : i < m) (hr : res[i]? = some r) (hun : L i = false)
    (hq : r.anc.testBit q = true) (hr' : res[q]? = some r') (hk : k < r'.news.length) (hnc : offs hp.length res q + k ∉ conL (res.take i)) : Alive m res L (offs hp.length res q + k) := by
  intro i' r1 hi' hL' hr1 hcon
  have hqi := ha.lt i r q hi hr hq
  rcases Nat.lt_trichotomy i' i with h | h | h
  · exact hnc (conL_mem.2 ⟨i', r1, by rw [List.getElem?_take, if_pos h]; exact hr1, hcon⟩)
  · subst h; rw [hun] at hL'; cases hL'
  · obtain ⟨o, hs, ps, hs1, g, r2, -, -, -, hr2, hanc, hcase⟩ := htab i' hi'
    rw [hr1] at hr2; cases hr2
    rcases hcase with ⟨-, -, -, h1⟩ | ⟨-, qs, hs', -, -, h1⟩
    · rw [hcon] at h1; cases h1
    · rw [hcon, ← hanc] at h1
      have hoff : ∀ p, p ≤ i' → offs hp.length (res.take i') p = offs hp.length res p := fun p hp' => by
        unfold offs; rw [List.take_take, Nat.min_eq_left hp']
      have hlen : i' ≤ res.length := Nat.le_of_lt (List.getElem?_eq_some_iff.1 hr1).1
      have hl2 : (res.take i').length = i' := by simp [hlen]
      have h2 := (conOk_elim h1).2 q i (by omega) (by omega) (by rw [hoff q (by omega)]; omega) (by rw [hoff (q + 1) (by omega)]; have := sumN_take_succ hr'; unfold offs at *; omega)
        (.inr ⟨r, by rw [List.getElem?_take, if_pos h]; exact hr, hq⟩)
      have h3 := hclosed i' r1 hi' hL' hr1 i h2
      rw [hun] at h3; cases h3

/-- What operation i may lean on is there as soon as its turn may come. -/
theorem InvE.pre {i : Nat} {o : Oper} {r : ERn} (hI : InvE P gl base ops m l hp res L θ T w) (he : edgesOk ops m F kt = true) (htab : ∀ i, i < m → TabAt P gl ops m l hp res i) (ha : AncOk ops m res) (hi : i < m) (ho : ops[i]? = some o) (hr : res[i]? = some r)
    (hL : ∀ j, j ∈ needsL o → L j = true) (hm : ∀ j, L j = true → j < m) (hun : L i = false) (hres : ∀ q, q < m → ∃ r, res[q]? = some r) :
    PreA (Ai hp.length res r.anc) P gl base θ (slotS ops (res.take i) (needsL o).contains (waits ops i) m l) (heapS hp (res.take i) r.anc.testBit) T w ∧ ∀ p, r.anc.testBit p = true → L p = true := by
  have hanc : ∀ p, r.anc.testBit p = true → L p = true := fun p hp' => by
    obtain ⟨o', j, ho', hj, h1⟩ := ha.bit i r p hi hr hp'
    rw [ho] at ho'; cases ho'
    rcases h1 with rfl | ⟨r', h2, h3⟩
    · exact hL p hj
    · exact hI.closed j r' (hm j (hL j hj)) (hL j hj) h2 p h3
  have hoff : ∀ q, q < i → ∀ n, offs n (res.take i) q = offs n res q := fun q hq n => by
    unfold offs; rw [List.take_take, Nat.min_eq_left (by omega)]
  have hget : ∀ t x, (heapS hp (res.take i) r.anc.testBit)[t]? = some (some x) → (hp[t]? = some (some x) ∧ t < hp.length) ∨ ∃ q r' k, q < i ∧ res[q]? = some r' ∧ r.anc.testBit q = true ∧ r'.news[k]? = some x ∧ Alive m res L (offs hp.length res q + k) ∧ t = offs hp.length res q + k := fun t x ht => by
    rcases heapS_get ht with h | ⟨q, r', k, h1, h2, h3, hnc, h4⟩
    · exact .inl h
    · obtain ⟨h5, h6⟩ := take_get h1
      have h7 : t = offs hp.length res q + k := by rw [h4, hoff q h5]
      exact .inr ⟨q, r', k, h5, h6, h2, h3, seen_alive hI.closed htab ha hi hr hun h2 h6 (List.getElem?_eq_some_iff.1 h3).1 (by rw [← h7]; exact hnc), h7⟩
  have hin : ∀ q r' k, res[q]? = some r' → k < r'.news.length → offs hp.length res q ≤ offs hp.length res q + k ∧ offs hp.length res q + k < offs hp.length res (q + 1) := fun q r' k h1 h2 => by
    rw [offs_succ h1]; omega
  have hsub : ∀ q r', r.anc.testBit q = true → res[q]? = some r' → ∀ t, Aq hp.length res r'.anc q t → Ai hp.length res r.anc t := fun q r' hq hr' t ht => by
    rcases ht with ht | ⟨p, hp', h1, h2⟩
    · exact .inl ht
    · refine .inr ⟨p, ?_, h1, h2⟩
      rcases hp' with rfl | hp'
      · exact hq
      · exact ha.trans i r q r' p hi hr hq hr' hp'
  refine ⟨⟨fun θ' hs => ⟨⟨fun t x ht => ?_, fun t t' x x' ht ht' hne hown hl a a' hb hb' => ?_⟩, ?_, fun j v hj => ?_⟩, fun t x ht => ?_, hI.gok, hI.gb, hI.sz⟩, hanc⟩
  · rcases hget t x ht with ⟨h1, -⟩ | ⟨q, r', k, h1, h2, h3, h4, hal, rfl⟩
    · exact (hI.old θ' (fun t ht => hs t (.inl ht))).1.vw t x h1
    · have hk := (List.getElem?_eq_some_iff.1 h4).1
      have h5 := hin q r' k h2 hk
      rw [hs _ (.inr ⟨q, h3, h5.1, h5.2⟩)]
      exact ((hI.op q r' (by omega) (hanc q h3) h2 θ' (fun t ht => hs t (hsub q r' h3 h2 t ht))).2 k x h4 hal)
  · rcases hget t x ht with ⟨h1, h1'⟩ | ⟨q, r', k, h1, h2, h3, h4, hal, rfl⟩ <;> rcases hget t' x' ht' with ⟨g1, g1'⟩ | ⟨q', r2, k', g1, g2, g3, g4, gal, rfl⟩
    · exact (hI.old θ' (fun t ht => hs t (.inl ht))).1.ne t t' x x' h1 g1 hne hown hl a a' hb hb'
    · have hk := (List.getElem?_eq_some_iff.1 g4).1
      have h5 := hin q' r2 k' g2 hk
      rw [hs _ (.inr ⟨q', g3, h5.1, h5.2⟩)] at hb'
      rw [hs _ (.inl h1')] at hb
      exact fun e => hI.neOld q' r2 k' x' (by omega) (hanc q' g3) g2 g4 gal t x h1 (.inr ⟨hown, hl⟩) a' a hb' hb e.symm
    · have hk := (List.getElem?_eq_some_iff.1 h4).1
      have h5 := hin q r' k h2 hk
      rw [hs _ (.inr ⟨q, h3, h5.1, h5.2⟩)] at hb
      rw [hs _ (.inl g1')] at hb'
      exact hI.neOld q r' k x (by omega) (hanc q h3) h2 h4 hal t' x' g1 (.inl ⟨hown, hl⟩) a a' hb hb'
    · have hk := (List.getElem?_eq_some_iff.1 h4).1
      have hk' := (List.getElem?_eq_some_iff.1 g4).1
      have h5 := hin q r' k h2 hk
      have h6 := hin q' r2 k' g2 hk'
      rw [hs _ (.inr ⟨q, h3, h5.1, h5.2⟩)] at hb
      rw [hs _ (.inr ⟨q', g3, h6.1, h6.2⟩)] at hb'
      refine hI.ne q q' r' r2 k k' x x' (by omega) (by omega) (hanc q h3) (hanc q' g3) h2 g2 h4 g4 ?_ hal gal hown hl a a' hb hb'
      by_cases hq : q = q'
      · subst hq; exact .inr (fun e => hne (by rw [e]))
      · exact .inl hq
  · rw [slotS_length]; exact hI.size
  · rcases slotS_get hj with ⟨q, r', h1, h2, h3, h4, h5, h6⟩ | ⟨h1, h2⟩
    · obtain ⟨h8, h9⟩ := take_get h5
      have h10 : q ∈ needsL o := List.contains_iff_mem.1 h4
      have hq := ha.need i r o q hi hr ho h10
      have := (hI.op q r' (by omega) (hL q h10) h9 θ' (fun t ht => hs t (hsub q r' hq h9 t ht))).1 j h2 h3
      rw [h6] at this
      exact this
    · refine (hI.old θ' (fun t ht => hs t (.inl ht))).2 j v h1 (fun q hq hLq => h2 q hq ?_)
      cases hw : waits ops i q with
      | false => rfl
      | true =>
        unfold waits at hw
        split at hw
        · rename_i oq hoq
          obtain ⟨rq, hrq⟩ := hres q hq
          have h3 := hI.closed q rq hq hLq hrq i (ha.need q rq oq i hq hrq hoq (List.contains_iff_mem.1 hw))
          rw [hun] at h3; cases h3
        · cases hw
  · rcases hget t x ht with ⟨h1, h2⟩ | ⟨q, r', k, h1, h2, h3, h4, hal, rfl⟩
    · exact .inl h2
    · have h5 := hin q r' k h2 (List.getElem?_eq_some_iff.1 h4).1
      exact .inr ⟨q, h3, h5.1, h5.2⟩

end

end Go.Sx
