/-
  SX, part 17: an open region, from its schedule's start to its end.
-/
import Derived.Test.YtehnnaanpmceiaaGreatDoorSxg
set_option linter.unusedVariables false
set_option linter.unusedSimpArgs false
namespace Go.Sx
open Go.RowKit

section
variable {P : Program} {gl : List (Nat × Vw)} {base : Nat} {ops : Array Oper} {F : List Nat} {kt : Nat} {m : Nat} {l : List (Option SV)} {hp : List (Option Vw)} {res : List ERn} {L : Nat → Bool} {θ : Th} {T : Array Value} {w : World} {rx : Rx} {fn : FuncId} {k0 : List Item} {cs : List Frame}

theorem heapS_len_i {i : Nat} {a : Nat → Bool} : (heapS hp (res.take i) a).length = offs hp.length res i := by rw [heapS_length]; rfl

theorem put_get {o : Oper} {r : Value} {d : Nat} : ((Act.mk T []).put o.dst r).tmps[d]? = if o.dst = some d then (if d < T.size then some r else none) else T[d]? := by
  unfold Act.put
  cases hd : o.dst with
  | none => simp
  | some e =>
    simp only [Array.getElem?_setIfInBounds, Option.some.injEq]
    split
    · rename_i h; subst h; rfl
    · rfl

theorem put_size {o : Oper} {r : Value} : ((Act.mk T []).put o.dst r).tmps.size = T.size := by
  unfold Act.put; cases o.dst <;> simp

/-- One operation of the open part, carried out. -/
theorem InvE.next {i : Nat} {o : Oper} {r : ERn} {rest : List Nat} (hI : InvE P gl base ops m l hp res L θ T w) (he : edgesOk ops m F kt = true) (htab : ∀ i, i < m → TabAt P gl ops m l hp res i) (hi : i < m) (ho : ops[i]? = some o) (hr : res[i]? = some r)
    (hun : L i = false) (hL : ∀ j, j ∈ needsL o → L j = true) (hm : ∀ j, L j = true → j < m) :
    ∃ T' w' θ', Steps P (lone (mkFr rx fn T (.inRegion ops (i :: rest) :: k0)) cs w) (lone (mkFr rx fn T' (.inRegion ops rest :: k0)) cs w') ∧ Below base w w' ∧ Same hp.length θ θ' ∧
      InvE P gl base ops m l hp res (fun q => q == i || L q) θ' T' w' := by
  have ha := ancOk he htab
  obtain ⟨hpre, hanc⟩ := hI.pre he htab ha hi ho hr hL hm hun (fun q hq => by obtain ⟨_, _, _, _, _, r, _, _, _, hr, _⟩ := htab q hq; exact ⟨r, hr⟩)
  obtain ⟨o', hs, ps, hs1, g, r', ho', hg, hps, hr', hranc, hcase⟩ := htab i hi
  rw [ho] at ho'; cases ho'
  rw [hr] at hr'; cases hr'
  have hw : Region.wanted o (yielded ops T) = g := guardS_wanted hg hps (hpre.inv θ (SameA.refl _ _)).2
  have hES : EStep P base (Ai hp.length res r.anc) θ rx fn T w ops i o (heapS hp (res.take i) r.anc.testBit) rest k0 cs r.v r.news r.con := by
    rcases hcase with ⟨rfl, hv, hn, hcn⟩ | ⟨rfl, qs, hs', hx, hqs, -⟩
    · rw [hcn]
      refine EStep0.lift hI.sz ⟨undef, w, fun _ => ⟨none, 0, 0⟩, ?_, Below.refl _ _, fun θ' _ _ => ⟨by rw [hv]; rfl, fun k x hk => by rw [hn] at hk; simp at hk, fun k k' x x' hk => by rw [hn] at hk; simp at hk⟩⟩
      have := stepM_off (P := P) (w := w) (rx := rx) (fn := fn) (T := T) (k := k0) (cs := cs) (rest := rest) ho hw
      exact .one this
    · rw [← hranc] at hx
      exact sxE_step hpre ho hw hx hqs
  have hcon : ∀ t, r.con = some t → hp.length ≤ t := fun t ht => by
    rcases hcase with ⟨-, -, -, hcn⟩ | ⟨-, -, -, -, -, hc⟩
    · rw [hcn] at ht; cases ht
    · rw [ht] at hc; exact (conOk_elim hc).1
  obtain ⟨rv, w', nw, hst, hbel, hkeep, hcx, hfin⟩ := hES
  simp only [heapS_len_i] at hfin
  let N := hp.length
  have hN : ∀ q, N ≤ offs N res q := fun q => by unfold offs; omega
  let θ2 : Th := fun t => if offs N res i ≤ t ∧ t < offs N res (i + 1) then nw (t - offs N res i) else θ t
  have hin : ∀ q r' k, res[q]? = some r' → k < r'.news.length → offs N res q ≤ offs N res q + k ∧ offs N res q + k < offs N res (q + 1) := fun q r' k h1 h2 => by
    rw [offs_succ h1]; omega
  have h2i : ∀ k, k < r.news.length → θ2 (offs N res i + k) = nw k := fun k hk => by
    have := hin i r k hr hk
    simp only [θ2, this, and_self, if_true, Nat.add_sub_cancel_left]
  have h2o : ∀ q r' k, q ≠ i → res[q]? = some r' → k < r'.news.length → θ2 (offs N res q + k) = θ (offs N res q + k) := fun q r' k hq h1 h2 => by
    have h3 := hin q r' k h1 h2
    simp only [θ2]
    rw [if_neg]
    rintro ⟨h4, h5⟩
    exact hq (offs_uniq h3.1 h3.2 h4 h5)
  have h2N : ∀ t, t < N → θ2 t = θ t := fun t ht => by
    simp only [θ2]
    rw [if_neg]
    have := hN i
    omega
  have hanci : ∀ p, r.anc.testBit p = true → p ≠ i := fun p hp' => by have := ha.lt i r p hi hr hp'; omega
  have h2A : SameA (Ai N res r.anc) θ θ2 := fun t ht => by
    rcases ht with ht | ⟨p, h1, h2, h3⟩
    · exact h2N t ht
    · simp only [θ2]
      rw [if_neg]
      rintro ⟨h4, h5⟩
      exact hanci p h1 (offs_uniq h2 h3 h4 h5)
  obtain ⟨hrv, hnews, hnne⟩ := hfin θ2 h2A h2i
  -- what is used up: a view that the open part laid, and that nobody has used up
  have hused : ∀ t, r.con = some t → ∃ q r' k x, q < m ∧ L q = true ∧ res[q]? = some r' ∧ r'.news[k]? = some x ∧ t = offs N res q + k ∧ Alive m res L (offs N res q + k) ∧ x.own = true := fun t ht => by
    obtain ⟨x, h1, hxo⟩ := hcx t ht
    rcases heapS_get h1 with ⟨-, h2⟩ | ⟨q, r', k, h2, h3, h4, h5, h6⟩
    · have := hcon t ht; omega
    · obtain ⟨h7, h8⟩ := take_get h2
      have hoff : offs N (res.take i) q = offs N res q := by unfold offs; rw [List.take_take, Nat.min_eq_left (by omega)]
      have h9 : t = offs N res q + k := by rw [h6]; exact congrArg (· + k) hoff
      exact ⟨q, r', k, x, by omega, hanc q h3, h8, h4, h9, seen_alive hI.closed htab ha hi hr hun h3 h8 (List.getElem?_eq_some_iff.1 h4).1 (by rw [← h9]; exact h5), hxo⟩
  have halive : ∀ t, Alive m res (fun q => q == i || L q) t → Alive m res L t ∧ r.con ≠ some t := fun t h => ⟨fun i' r' h1 h2 h3 => h i' r' h1 (by simp [h2]) h3, h i r hi (by simp) hr⟩
  have hokOld : ∀ t x, hp[t]? = some (some x) → (x.own = true ∨ x.live) → ∀ a, (θ t).base = some a → ∀ t' a', r.con = some t' → (θ t').base = some a' → a'.block ≠ a.block := fun t x ht hl a ha t' a' ht' ha' => by
    obtain ⟨q, r', k, x', h1, h2, h3, h4, rfl, h6, h7⟩ := hused t' ht'
    exact hI.neOld q r' k x' h1 h2 h3 h4 h6 t x ht (.inl ⟨h7, hl⟩) a' a ha' ha
  have hokNew : ∀ q r' k x, q < m → L q = true → res[q]? = some r' → r'.news[k]? = some x → Alive m res L (offs N res q + k) → r.con ≠ some (offs N res q + k) → (x.own = true ∨ x.live) → ∀ a, (θ (offs N res q + k)).base = some a → ∀ t' a', r.con = some t' → (θ t').base = some a' → a'.block ≠ a.block :=
    fun q r' k x h1 h2 h3 h4 h5 h6 hl a ha t' a' ht' ha' => by
    obtain ⟨q', r2, k', x', g1, g2, g3, g4, rfl, g6, g7⟩ := hused t' ht'
    refine hI.ne q' q r2 r' k' k x' x g1 h1 g2 h2 g3 h3 g4 h4 ?_ g6 h5 g7 hl a' a ha' ha
    by_cases hq : q' = q
    · subst hq
      exact .inr (fun e => h6 (by rw [ht', e]))
    · exact .inl hq
  have hnewblk : ∀ k x a, r.news[k]? = some x → x.own = true → (nw k).base = some a → w.heap.size ≤ a.block ∨ ∃ t a', r.con = some t ∧ (θ t).base = some a' ∧ a'.block = a.block := fun k x a hk ho1 hb => by
    rcases (hnews k x hk).2 with ⟨-, h1⟩ | ⟨h1, -⟩
    · exact h1 a hb
    · rw [ho1] at h1; cases h1
  -- a new view that is not the call's own leads into one that was there
  have hnewal : ∀ k x a, r.news[k]? = some x → (x.own = true ∨ x.live) → (nw k).base = some a → x.own = true ∨ ∃ y a', y.own = false ∧ y.live ∧ a'.block = a.block ∧
      ((∃ s, hp[s]? = some (some y) ∧ (θ s).base = some a') ∨ ∃ q r' k', q < m ∧ L q = true ∧ res[q]? = some r' ∧ r'.news[k']? = some y ∧ Alive m res L (offs N res q + k') ∧ (θ (offs N res q + k')).base = some a') := fun k x a hk hl hb => by
    rcases (hnews k x hk).2 with ⟨h1, -⟩ | ⟨h1, s, y, h2, h3, h4⟩
    · exact .inl h1
    · obtain ⟨h5, h6⟩ := h4 (hl.resolve_left (by rw [h1]; simp))
      obtain ⟨a', h7, h8⟩ := h6 a hb
      refine .inr ⟨y, a', h3, h5, h8, ?_⟩
      rcases heapS_get h2 with ⟨g1, -⟩ | ⟨q, r', k', g2, g3, g4, g5, g6⟩
      · exact .inl ⟨s, g1, h7⟩
      · obtain ⟨g7, g8⟩ := take_get g2
        have hoff : offs N (res.take i) q = offs N res q := by unfold offs; rw [List.take_take, Nat.min_eq_left (by omega)]
        have g9 : s = offs N res q + k' := by rw [g6]; exact congrArg (· + k') hoff
        exact .inr ⟨q, r', k', by omega, hanc q g3, g8, g4, seen_alive hI.closed htab ha hi hr hun g3 g8 (List.getElem?_eq_some_iff.1 g4).1 (by rw [← g9]; exact g5), by rw [← g9]; exact h7⟩
  have holdblk : ∀ q r' k x a, q < m → L q = true → res[q]? = some r' → r'.news[k]? = some x → Alive m res L (offs N res q + k) → (x.own = true ∨ x.live) → (θ (offs N res q + k)).base = some a → a.block < w.heap.size := fun q r' k x a h1 h2 h3 h4 hal hl h5 =>
    ((hI.op q r' h1 h2 h3 θ (SameA.refl _ _)).2 k x h4 hal).lt h5 hl
  have hneq : ∀ q, L q = true → q ≠ i := fun q hq e => by subst e; rw [hun] at hq; cases hq
  have hdst : dstOf ops i = o.dst := by unfold dstOf; rw [ho]; rfl
  have hsz' : base ≤ w'.heap.size := Nat.le_trans hI.sz hbel.size
  refine ⟨_, w', θ2, hst, hbel, fun t ht => h2N t ht, ⟨by rw [put_size]; exact hI.size, fun θ' hs' => ?_, fun q r' hq hLq hr' θ' hs' => ?_, fun q q' r1 r2 k k' x x' hq hq' hLq hLq' hr1 hr2 hk hk' hne hal hal' hown hl a a' hb hb' => ?_,
    fun q r1 k x hq hLq hr1 hk hal t x' ht hl a a' hb hb' => ?_, fun q r' hq hLq hr' p hp' => ?_, hI.gok.below hI.gb hbel, hI.gb, hsz'⟩⟩
  · obtain ⟨h1, h2⟩ := hI.old θ' (fun t ht => by rw [hs' t ht]; exact h2N t ht)
    refine ⟨⟨fun t x ht => (h1.vw t x ht).kept (ok := fun j => ∀ t' a', r.con = some t' → (θ t').base = some a' → a'.block ≠ j) hkeep (fun hl a ha => hokOld t x ht hl a (by rw [← h2N t (List.getElem?_eq_some_iff.1 ht).1, ← hs' t (List.getElem?_eq_some_iff.1 ht).1]; exact ha)), h1.ne⟩, fun j v hj hd => ?_⟩
    rw [put_get, if_neg (by rw [← hdst]; exact hd i hi (by simp))]
    exact h2 j v hj (fun q hq hLq => hd q hq (by simp [hLq]))
  · simp only [Bool.or_eq_true, beq_iff_eq] at hLq
    by_cases hqi : q = i
    · subst hqi
      rw [hr] at hr'; cases hr'
      have hA : SameA (Ai N res r.anc) θ θ' := fun t ht => by
        rw [hs' t ?_]
        · exact h2A t ht
        · rcases ht with ht | ⟨p, h1, h2⟩
          · exact .inl ht
          · exact .inr ⟨p, .inr h1, h2⟩
      have hnw' : ∀ k, k < r.news.length → θ' (offs N res q + k) = nw k := fun k hk => by
        have := hin q r k hr hk
        rw [hs' _ (.inr ⟨q, .inl rfl, this.1, this.2⟩)]
        exact h2i k hk
      obtain ⟨h1, h2, -⟩ := hfin θ' hA hnw'
      refine ⟨fun d hd hdl => ?_, fun k x hk hal => ?_⟩
      · rw [put_get, if_pos (by rw [← hdst]; exact hd), if_pos (by rw [hI.size]; exact hdl), h1]
      · obtain ⟨h4, -⟩ := h2 k x hk
        rw [h2i k (List.getElem?_eq_some_iff.1 hk).1]
        exact h4
    · have hLq' := hLq.resolve_left hqi
      have hA : SameA (Aq N res r'.anc q) θ θ' := fun t ht => by
        rw [hs' t ht]
        rcases ht with ht | ⟨p, h1, h2, h3⟩
        · exact h2N t ht
        · simp only [θ2]
          rw [if_neg]
          rintro ⟨h4, h5⟩
          have hpi := offs_uniq h2 h3 h4 h5
          subst hpi
          rcases h1 with rfl | h1
          · exact hqi rfl
          · exact hneq p (hI.closed q r' hq hLq' hr' p h1) rfl
      obtain ⟨h1, h2⟩ := hI.op q r' hq hLq' hr' θ' hA
      refine ⟨fun d hd hdl => ?_, fun k x hk hal => ?_⟩
      · rw [put_get, if_neg (by rw [← hdst]; exact dst_ne he hq hi hqi hd)]
        exact h1 d hd hdl
      · obtain ⟨hal1, hal2⟩ := halive _ hal
        have h4 := h2 k x hk hal1
        rw [h2o q r' k hqi hr' (List.getElem?_eq_some_iff.1 hk).1]
        exact h4.kept (ok := fun j => ∀ t' a', r.con = some t' → (θ t').base = some a' → a'.block ≠ j) hkeep (fun hl a ha => hokNew q r' k x hq hLq' hr' hk hal1 hal2 hl a ha)
  · simp only [Bool.or_eq_true, beq_iff_eq] at hLq hLq'
    have hkl := (List.getElem?_eq_some_iff.1 hk).1
    have hkl' := (List.getElem?_eq_some_iff.1 hk').1
    by_cases hqi : q = i <;> by_cases hqi' : q' = i
    · subst hqi hqi'
      rw [hr] at hr1 hr2; cases hr1; cases hr2
      rw [h2i k hkl] at hb
      rw [h2i k' hkl'] at hb'
      exact hnne k k' x x' hk hk' (hne.resolve_left (fun h => h rfl)) a a' hb hb'
    · subst hqi
      rw [hr] at hr1; cases hr1
      rw [h2i k hkl] at hb
      rw [h2o q' r2 k' hqi' hr2 hkl'] at hb'
      obtain ⟨hal1, hal2⟩ := halive _ hal'
      have h2 := holdblk q' r2 k' x' a' hq' (hLq'.resolve_left hqi') hr2 hk' hal1 hl hb'
      rcases hnewblk k x a hk hown hb with h1 | ⟨t, a2, h1, h3, h4⟩
      · omega
      · rw [← h4]; exact hokNew q' r2 k' x' hq' (hLq'.resolve_left hqi') hr2 hk' hal1 hal2 hl a' hb' t a2 h1 h3
    · subst hqi'
      rw [hr] at hr2; cases hr2
      rw [h2i k' hkl'] at hb'
      rw [h2o q r1 k hqi hr1 hkl] at hb
      obtain ⟨hal1, hal2⟩ := halive _ hal
      have h2 := holdblk q r1 k x a hq (hLq.resolve_left hqi) hr1 hk hal1 (.inl hown) hb
      rcases hnewal k' x' a' hk' hl hb' with hown' | ⟨y, a2, g1, g2, g3, g4⟩
      · rcases hnewblk k' x' a' hk' hown' hb' with h1 | ⟨t, a2, h1, h3, h4⟩
        · omega
        · rw [← h4]; exact (hokNew q r1 k x hq (hLq.resolve_left hqi) hr1 hk hal1 hal2 (.inl hown) a hb t a2 h1 h3).symm
      · rw [← g3]
        rcases g4 with ⟨s, g4, g5⟩ | ⟨q2, r3, k2, g4, g5, g6, g7, g8, g9⟩
        · exact hI.neOld q r1 k x hq (hLq.resolve_left hqi) hr1 hk hal1 s y g4 (.inl ⟨hown, .inr g2⟩) a a2 hb g5
        · refine hI.ne q q2 r1 r3 k k2 x y hq g4 (hLq.resolve_left hqi) g5 hr1 g6 hk g7 ?_ hal1 g8 hown (.inr g2) a a2 hb g9
          by_cases hqq : q = q2
          · subst hqq
            rw [hr1] at g6; cases g6
            exact .inr (fun e => by subst e; rw [hk] at g7; cases g7; rw [hown] at g1; cases g1)
          · exact .inl hqq
    · rw [h2o q r1 k hqi hr1 hkl] at hb
      rw [h2o q' r2 k' hqi' hr2 hkl'] at hb'
      exact hI.ne q q' r1 r2 k k' x x' hq hq' (hLq.resolve_left hqi) (hLq'.resolve_left hqi') hr1 hr2 hk hk' hne (halive _ hal).1 (halive _ hal').1 hown hl a a' hb hb'
  · simp only [Bool.or_eq_true, beq_iff_eq] at hLq
    have hkl := (List.getElem?_eq_some_iff.1 hk).1
    have htl := (List.getElem?_eq_some_iff.1 ht).1
    rw [h2N t htl] at hb'
    by_cases hqi : q = i
    · subst hqi
      rw [hr] at hr1; cases hr1
      rw [h2i k hkl] at hb
      have hown1 : x.own = true → a.block ≠ a'.block := fun hown => by
        have hl' : x'.own = true ∨ x'.live := by rcases hl with h | h; exact h.2; exact .inl h.1
        have h2 := ((hI.old θ (Same.refl _ _)).1.vw t x' ht).lt hb' hl'
        rcases hnewblk k x a hk hown hb with h1 | ⟨t2, a2, h1, h3, h4⟩
        · omega
        · rw [← h4]; exact hokOld t x' ht hl' a' hb' t2 a2 h1 h3
      rcases hl with ⟨h, -⟩ | ⟨hox, hlx⟩
      · exact hown1 h
      · rcases hnewal k x a hk hlx hb with hown' | ⟨y, a2, g1, g2, g3, g4⟩
        · exact hown1 hown'
        · rw [← g3]
          rcases g4 with ⟨s, g4, g5⟩ | ⟨q2, r3, k2, g4, g5, g6, g7, g8, g9⟩
          · exact ((hI.old θ (Same.refl _ _)).1.ne t s x' y ht g4 (fun e => by subst e; rw [ht] at g4; cases g4; rw [hox] at g1; cases g1) hox (.inr g2) a' a2 hb' g5).symm
          · exact hI.neOld q2 r3 k2 y g4 g5 g6 g7 g8 t x' ht (.inr ⟨hox, .inr g2⟩) a2 a' g9 hb'
    · rw [h2o q r1 k hqi hr1 hkl] at hb
      exact hI.neOld q r1 k x hq (hLq.resolve_left hqi) hr1 hk (halive _ hal).1 t x' ht hl a a' hb hb'
  · simp only [Bool.or_eq_true, beq_iff_eq] at hLq ⊢
    by_cases hqi : q = i
    · subst hqi
      rw [hr] at hr'; cases hr'
      exact .inr (hanc p hp')
    · exact .inr (hI.closed q r' hq (hLq.resolve_left hqi) hr' p hp')

/-- The orders that the model may draw, one operation after the other. -/
def VS (ops : Array Oper) : Nat → Array Bool → List Nat → Prop
  | 0, _, σ => σ = []
  | n + 1, L, σ => (Region.ready .any ops L = [] ∧ σ = []) ∨ ∃ i σ', i ∈ Region.ready .any ops L ∧ σ = i :: σ' ∧ VS ops n (L.setIfInBounds i true) σ'

theorem lin_vs : ∀ (fuel t : Nat) (L : Array Bool) (acc : List Nat), ∃ σ, Region.linearise.go .any ops fuel t L acc = acc.reverse ++ σ ∧ VS ops fuel L σ
  | 0, t, L, acc => ⟨[], by simp [Region.linearise.go], rfl⟩
  | fuel + 1, t, L, acc => by
    simp only [Region.linearise.go]
    split
    · rename_i i hi
      obtain ⟨σ, h1, h2⟩ := lin_vs fuel _ (L.setIfInBounds i true) (i :: acc)
      refine ⟨i :: σ, by rw [h1]; simp, .inr ⟨i, σ, List.mem_of_getElem? hi, rfl, h2⟩⟩
    · rename_i hn
      refine ⟨[], by simp, .inl ⟨?_, rfl⟩⟩
      have h1 := List.getElem?_eq_none_iff.1 hn
      rcases Nat.eq_zero_or_pos (Region.ready .any ops L).length with h2 | h2
      · exact List.length_eq_zero_iff.1 h2
      · exact absurd (Nat.mod_lt t h2) (Nat.not_lt.2 h1)

theorem mem_ready' {L : Array Bool} {i : Nat} : i ∈ Region.ready .any ops L ↔ ∃ o, ops[i]? = some o ∧ L.getD i true = false ∧ ∀ j ∈ needsL o, L.getD j false = true := by
  unfold Region.ready
  rw [List.mem_filter, List.mem_range]
  constructor
  · rintro ⟨h1, h2⟩
    have ho : ops[i]? = some ops[i] := Array.getElem?_eq_getElem h1
    simp only [ho, Option.map_some, Option.getD_some, Bool.and_eq_true, Bool.not_eq_true'] at h2
    refine ⟨_, ho, h2.1, fun j hj => ?_⟩
    simp only [needsL, List.mem_map, List.mem_filter] at hj
    obtain ⟨e, ⟨he, hb⟩, rfl⟩ := hj
    have := Array.all_eq_true_iff_forall_mem.1 h2.2 e (Array.mem_toList_iff.1 he)
    simpa [hb] using this
  · rintro ⟨o, ho, h1, h2⟩
    refine ⟨(Array.getElem?_eq_some_iff.1 ho).1, ?_⟩
    simp only [ho, Option.map_some, Option.getD_some, h1, Bool.not_false, Bool.true_and]
    rw [Array.all_eq_true_iff_forall_mem]
    intro e he
    cases hb : Region.binds .any e with
    | false => simp
    | true =>
      have := h2 e.on (by simp only [needsL, List.mem_map, List.mem_filter]; exact ⟨e, ⟨Array.mem_toList_iff.2 he, hb⟩, rfl⟩)
      simp [this]

theorem getD_set (L : Array Bool) (i q : Nat) (b : Bool) (hi : i < L.size) : (L.setIfInBounds i true).getD q b = if q = i then true else L.getD q b := by
  simp only [Array.getD_eq_getD_getElem?, Array.getElem?_setIfInBounds]
  by_cases h : i = q
  · subst h; simp [hi]
  · rw [if_neg h, if_neg (fun e => h e.symm)]

/-- Behind the open part the others come in their order. -/
theorem vs_tail (he : edgesOk ops m F kt = true) : ∀ (n : Nat) (j : Nat) (L : Array Bool) (σ : List Nat), m + kt ≤ j → j + n = ops.size → L.size = ops.size → (∀ q, L.getD q true = true ↔ (q < j ∨ ops.size ≤ q)) → VS ops n L σ → σ = List.range' j n
  | 0, j, L, σ, hm, hj, hs, hL, h => by rw [h]; rfl
  | n + 1, j, L, σ, hm, hj, hs, hL, h => by
    have hLf : ∀ q, q < ops.size → (L.getD q false = true ↔ q < j) := fun q hq => by
      have h1 := hL q
      have h2 : L.getD q false = L.getD q true := by simp [Array.getD_eq_getD_getElem?, Array.getElem?_eq_getElem (show q < L.size by omega)]
      rw [h2, h1]; omega
    have hjr : j ∈ Region.ready .any ops L := by
      have ho : ops[j]? = some (ops[j]'(by omega)) := Array.getElem?_eq_getElem _
      refine mem_ready'.2 ⟨_, ho, ?_, fun q hq => ?_⟩
      · cases hb : L.getD j true with
        | false => rfl
        | true => have := (hL j).1 hb; omega
      · have := edges_lt he ho hq
        exact (hLf q (by omega)).2 this
    rcases h with ⟨h1, -⟩ | ⟨i, σ', h1, rfl, h2⟩
    · rw [h1] at hjr; cases hjr
    · obtain ⟨o, ho, h3, h4⟩ := mem_ready'.1 h1
      have hil := (Array.getElem?_eq_some_iff.1 ho).1
      have hij : j ≤ i := by
        rcases Nat.lt_or_ge i j with h5 | h5
        · have := (hL i).2 (.inl h5); rw [h3] at this; cases this
        · exact h5
      have hij' : i = j := by
        rcases Nat.lt_or_ge j i with h5 | h5
        · have h6 := edges_tail (L := fun q => L.getD q false) he ho (by omega) (fun q oq p hq hoq hp => by
            have hqs := (Array.getElem?_eq_some_iff.1 hoq).1
            have h6 := (hLf q hqs).1 hq
            have h7 := edges_lt he hoq hp
            exact (hLf p (by omega)).2 (by omega)) h4 _ j h5 (Nat.le_refl _) (by rw [show decide (i < m + kt) = false by rw [decide_eq_false_iff_not]; omega]; rfl)
          have := (hLf j (by omega)).1 h6
          omega
        · omega
      subst hij'
      rw [List.range'_succ]
      congr 1
      refine vs_tail he n (i + 1) _ σ' (by omega) (by omega) (by simp [hs]) (fun q => ?_) h2
      rw [getD_set _ _ _ _ (by omega)]
      split
      · rename_i hq; subst hq; simp
      · rename_i hq; rw [hL q]; omega

theorem count_set {L : Array Bool} {i n N : Nat} (hs : L.size = N) (hi : i < N) (h3 : L.getD i false = false) (hc : L.toList.count false = n + 1) : (L.setIfInBounds i true).toList.count false = n := by
  rw [Array.toList_setIfInBounds]
  have hli : L.toList[i]? = some false := by
    have : L[i]'(by omega) = false := by simpa [Array.getD_eq_getD_getElem?, Array.getElem?_eq_getElem (show i < L.size by omega)] using h3
    simp [Array.getElem?_eq_getElem (show i < L.size by omega), this]
  have := List.count_set (a := true) (b := false) (l := L.toList) (i := i) (by simp; omega)
  rw [this]
  have hg : L.toList[i]'(by simp; omega) = false := (List.getElem?_eq_some_iff.1 hli).2
  simp [hg, hc]

/-- The open part, from any point of any order, comes to where what stands behind it is next. -/
theorem run_open (he : edgesOk ops m F kt = true) (htab : ∀ i, i < m → TabAt P gl ops m l hp res i) : ∀ (n : Nat) (L : Array Bool) (σ : List Nat) (θ : Th) (T : Array Value) (w : World), L.size = ops.size → (∀ q, L.getD q false = true → q < m) → L.toList.count false = n → VS ops n L σ →
    InvE P gl base ops m l hp res (fun q => L.getD q false) θ T w →
    ∃ n' L' σ' T' w' θ', Steps P (lone (mkFr rx fn T (.inRegion ops σ :: k0)) cs w) (lone (mkFr rx fn T' (.inRegion ops σ' :: k0)) cs w') ∧ Below base w w' ∧ Same hp.length θ θ' ∧ L'.size = ops.size ∧ (∀ q, L'.getD q false = true → q < m) ∧ L'.toList.count false = n' ∧ VS ops n' L' σ' ∧
      InvE P gl base ops m l hp res (fun q => L'.getD q false) θ' T' w' ∧ ∀ i r, σ' = i :: r → m ≤ i := by
  intro n
  induction n with
  | zero =>
    intro L σ θ T w hs hL hc hv hI
    exact ⟨0, L, σ, T, w, θ, .refl _ _, Below.refl _ _, Same.refl _ _, hs, hL, hc, hv, hI, fun i r e => by rw [show σ = [] from hv] at e; cases e⟩
  | succ n ih =>
    intro L σ θ T w hs hL hc hv hI
    rcases hv with ⟨h1, rfl⟩ | ⟨i, σ', h1, rfl, h2⟩
    · exact ⟨n + 1, L, [], T, w, θ, .refl _ _, Below.refl _ _, Same.refl _ _, hs, hL, hc, .inl ⟨h1, rfl⟩, hI, fun i r e => by cases e⟩
    · rcases Nat.lt_or_ge i m with him | him
      · obtain ⟨o, ho, h3, h4⟩ := mem_ready'.1 h1
        have hil := (Array.getElem?_eq_some_iff.1 ho).1
        have hsz : L.getD i true = L.getD i false := by simp [Array.getD_eq_getD_getElem?, Array.getElem?_eq_getElem (show i < L.size by omega)]
        rw [hsz] at h3
        have hr : ∃ r, res[i]? = some r := by
          obtain ⟨_, _, _, _, _, r, _, _, _, hr, _⟩ := htab i him
          exact ⟨r, hr⟩
        obtain ⟨r, hr⟩ := hr
        obtain ⟨T1, w1, θ1, hst, hb1, hs1, hI1⟩ := hI.next (rx := rx) (fn := fn) (k0 := k0) (cs := cs) (rest := σ') he htab him ho hr h3 h4 (fun j hj => hL j hj)
        have hfun : (fun q => q == i || L.getD q false) = (fun q => (L.setIfInBounds i true).getD q false) := funext fun q => by
          rw [getD_set _ _ _ _ (by omega)]
          by_cases hq : q = i
          · subst hq; simp
          · simp [hq]
        rw [hfun] at hI1
        obtain ⟨n', L', σ2, T2, w2, θ2, hst2, hb2, hs2, hz⟩ := ih (L.setIfInBounds i true) σ' θ1 T1 w1 (by simp [hs]) (fun q hq => by
          rw [getD_set _ _ _ _ (by omega)] at hq
          split at hq
          · rename_i h; subst h; exact him
          · exact hL q hq) (count_set hs hil h3 hc) h2 hI1
        exact ⟨n', L', σ2, T2, w2, θ2, hst.trans hst2, hb1.trans hb2, hs1.trans hs2, hz⟩
      · exact ⟨n + 1, L, i :: σ', T, w, θ, .refl _ _, Below.refl _ _, Same.refl _ _, hs, hL, hc, .inr ⟨i, σ', h1, rfl, h2⟩, hI, fun i' r e => by cases e; exact him⟩

end

end Go.Sx
