import Derived.Test.YtehnnaanpmceiaaGreatDoorRnd
import Derived.Test.YtehnnaanpmceiaaGreatDoorRgt
import Derived.Test.YtehnnaanpmceiaaGreatDoorCnt
import Derived.Test.YtehnnaanpmceiaaGreatDoorProg
import Derived.KernelRfl
import Derived.Laws.Externs
set_option linter.unusedVariables false
set_option linter.unusedSimpArgs false
set_option linter.unusedSectionVars false
set_option maxRecDepth 100000
namespace Go.Proofs.YtehnnaanpmceiaaGreatDoor
open Go Go.Sx
variable [Env]

/-- Interest for a part. -/
def ofV (o r n d : Int) : Int × Int := if rightB n d = true then rnd o r n d 10000 else (0, 1)
/-- The first code of many. -/
def allE (o r : Int) (g h : Nat → Int) : Nat → Int
  | 0 => 0
  | n + 1 => if allE o r g h n ≠ 0 then allE o r g h n else (ofV o r (g n) (h n)).2
/-- Interest from a day to another one, by the part between. -/
def btV (p : Int × Int × Int) (o r : Int) : Int × Int := if p.2.2 = 0 then ofV o r p.1 p.2.1 else (0, p.2.2)
/-- Is a part of usual size? -/
def okU (n d : Int) : Bool := rightB n d && decide (n ≤ 10000000000000 ∧ d ≤ 10000000000000 ∧ n ≤ 100 * d)
def usB (g h : Nat → Int) (n : Nat) : Bool := decide (∀ i, i < n → okU (g i) (h i) = true)
abbrev rr (n : Nat) (g h : Nat → Int) : Option Vw := some (.row false 29 n 2 (fun i => [I (g i), I (h i)]))

theorem allE_stop {o r : Int} {g h : Nat → Int} {i : Nat} (h0 : allE o r g h i = 0) (h1 : (ofV o r (g i) (h i)).2 ≠ 0) : ∀ n, i < n → allE o r g h n = (ofV o r (g i) (h i)).2 := by
  intro n
  induction n with
  | zero => intro hn; omega
  | succ n ih =>
    intro hn
    unfold allE
    rcases Nat.lt_or_ge i n with c | c
    · rw [ih c, if_pos h1]
    · have : i = n := by omega
      subst this
      rw [if_neg (fun q => q h0)]

/-- A nil slice is an empty row of the call's own. -/
theorem IsFin.nilsl {X : Cx} {P : Program} {gl : List (Nat × Vw)} {f : FuncId} {hp0 : List (Option Vw)} {el : TypeId} {sz : Nat} {g : Nat → List SV} {e : SV}
    (hX : IsFin X P gl f hp0 (.tup [.sl hp0.length 0, e]) [some (.row true el 0 sz g)]) : IsFin X P gl f hp0 (.tup [.val (.slice none 0 0), e]) [] := by
  obtain ⟨h1, h2, h3, hce, h4, h5, h6, h7, h8⟩ := hX
  refine ⟨h1, h2, h3, hce, h4, h5, h6, h7, fun r w' hb hr => h8 r w' hb ?_⟩
  obtain ⟨nw, hn⟩ := hr
  refine ⟨fun _ => ⟨none, 0, sz⟩, fun θ' hs hk => ?_⟩
  obtain ⟨e1, e2⟩ := hn θ' hs (fun k hk => absurd hk (Nat.not_lt_zero _))
  have eL : θ' hp0.length = ⟨none, 0, sz⟩ := hk 0 Nat.one_pos
  rw [List.append_nil] at e2
  refine ⟨?_, ⟨fun t v hv => ?_, fun t t' v v' hv hv' hne ho hl a a' ha ha' => ?_⟩⟩
  · rw [e1]
    simp only [den, denL, eL]
  · rcases Nat.lt_or_ge t hp0.length with c | c
    · rw [List.getElem?_append_left c] at hv
      exact e2.vw t v hv
    · rw [List.getElem?_append_right c] at hv
      have : t = hp0.length := by
        rcases Nat.eq_or_lt_of_le c with q | q
        · exact q.symm
        · rw [List.getElem?_eq_none (by simp only [List.length_cons, List.length_nil]; omega)] at hv; cases hv
      subst this
      rw [Nat.sub_self] at hv
      simp only [List.getElem?_cons_zero, Option.some.injEq] at hv
      subst hv
      rw [eL]
      exact ⟨rfl, Nat.le_refl _, ⟨.inl rfl, (fun a ha => by cases ha)⟩, fun i hi => absurd hi (Nat.not_lt_zero _), (fun a ha => by cases ha), fun _ => .inl ⟨rfl, rfl⟩⟩
  · have out : ∀ (s : Nat) (u : Vw) (b : _), (hp0 ++ [some (Vw.row true el 0 sz g)])[s]? = some (some u) → (θ' s).base = some b → hp0[s]? = some (some u) := fun s u b hs hb => by
      rcases Nat.lt_or_ge s hp0.length with c | c
      · rwa [List.getElem?_append_left c] at hs
      · exfalso
        have : s = hp0.length := by
          rcases Nat.eq_or_lt_of_le c with q | q
          · exact q.symm
          · rw [List.getElem?_append_right c, List.getElem?_eq_none (by simp only [List.length_cons, List.length_nil]; omega)] at hs; cases hs
        subst this
        rw [eL] at hb; cases hb
    exact e2.ne t t' v v' (out t v a hv ha) (out t' v' a' hv' ha') hne ho hl a a' ha ha'



theorem accrue_Of_w {a1 a2 a3 a4 : Int} {res : SV} (H : ((rightB a3 a4) = false → (SV.tup [I 0, I 1]) = res) ∧ ((rightB a3 a4) = true → ∃ r5 r6 : Int, S 67 [I a1, I a2, .agg [I a3, I a4], I 10000] [] (.tup [I r5, I r6]) [] ∧ (SV.tup [I r5, I r6]) = res)) :
    S 35 [I a1, I a2, .agg [I a3, I a4]] [] res [] := by
  refine SCall.st fun X hX => ?_
  obtain ⟨H1, H2⟩ := H
  refine hX.go [c_ [] (show S 66 [.agg [I a3, I a4]] [] (B (rightB a3 a4)) [] from cRight _ _)] ?_
  rcases bcase (rightB a3 a4) with h0 | h0
  · obtain ⟨r5, r6, h1, rfl⟩ := H2 h0
    exact hX.e [f_ (nf h0), c_ [] h1]
  · obtain rfl := H1 h0
    exact hX.e [t_ (nt h0)]

theorem aOf {o r : Int} (n d : Int) (h1 : Ir o) (h2 : Ir r) : S 35 [I o, I r, .agg [I n, I d]] [] (IT (ofV o r n d)) [] := by
  simp only [Ir, InR] at h1 h2
  refine accrue_Of_w ⟨fun c => ?_, fun c => ?_⟩
  · unfold ofV; rw [c]; rfl
  · have h := of_decide_eq_true c
    have := rPart3 (n := n) (d := d) o r 10000 (by omega) (by omega) (by omega) (by omega) (by omega) (by omega) (by omega)
    rw [show ofV o r n d = rnd o r n d 10000 by unfold ofV; rw [if_pos c]]
    exact ⟨_, _, this, rfl⟩



theorem demurrageref18_Of_w {a1 a2 a3 a4 : Int} {res : SV} (H : (a1 < 0 → (SV.tup [I 0, I 1]) = res) ∧ (¬ a1 < 0 → (a2 < 0 → (SV.tup [I 0, I 1]) = res) ∧ (¬ a2 < 0 → ((rightB a3 a4) = false → (SV.tup [I 0, I 1]) = res) ∧ ((rightB a3 a4) = true → ∃ r5 r6 : Int, S 68 [I a1, I a2, .agg [I a3, I a4], I 10000] [] (.tup [I r5, I r6]) [] ∧ (SV.tup [I r5, I r6]) = res)))) :
    S 36 [I a1, I a2, .agg [I a3, I a4]] [] res [] := by
  refine SCall.st fun X hX => ?_
  obtain ⟨H1, H2⟩ := H
  refine hX.go [c_ [] (show S 27 [.agg [I a3, I a4]] [] (B (rightB a3 a4)) [] from rRight _ _)] ?_
  by_cases h0 : a1 < 0
  · obtain rfl := H1 h0
    exact hX.e [t_ (dt h0), t_ (dt h0), t_ (dt h0), t_ rt, t_ rt, t_ rt, t_ rt]
  · obtain ⟨H1, H2⟩ := H2 h0
    refine hX.go [f_ (df h0), f_ (df h0), f_ (df h0)] ?_
    by_cases h1 : a2 < 0
    · obtain rfl := H1 h1
      exact hX.e [t_ (dt h1), t_ (dt h1), t_ (dt h1), t_ rt]
    · obtain ⟨H1, H2⟩ := H2 h1
      refine hX.go [f_ (df h1), f_ (df h1), f_ (df h1)] ?_
      rcases bcase (rightB a3 a4) with h2 | h2
      · obtain ⟨r5, r6, h3, rfl⟩ := H2 h2
        exact hX.e [f_ (nf h2), c_ [] h3]
      · obtain rfl := H1 h2
        exact hX.e [t_ (nt h2)]

theorem a18Of {o r : Int} (n d : Int) (h1 : Ir o) (h2 : Ir r) : S 36 [I o, I r, .agg [I n, I d]] [] (IT (ofV o r n d)) [] := by
  simp only [Ir, InR] at h1 h2
  have hb : o < 0 ∨ r < 0 → ofV o r n d = (0, 1) := fun c => by
    unfold ofV rnd; split
    · rw [if_pos (by omega)]
    · rfl
  refine demurrageref18_Of_w ⟨fun c => ?_, fun c1 => ⟨fun c => ?_, fun c2 => ⟨fun c => ?_, fun c => ?_⟩⟩⟩
  · rw [hb (.inl c)]
  · rw [hb (.inr c)]
  · unfold ofV; rw [c]; rfl
  · have h := of_decide_eq_true c
    have := rPart3R (n := n) (d := d) o r 10000 (by omega) (by omega) (by omega) (by omega) (by omega) (by omega) (by omega)
    rw [show ofV o r n d = rnd o r n d 10000 by unfold ofV; rw [if_pos c]]
    exact ⟨_, _, this, rfl⟩



noncomputable def accrue_All_h0 (n3 : Nat) (g4 : Nat → Int) (g5 : Nat → Int) (x1 : Int) (x2 : Int) (x3 : Int) (x4 : Int) (n3_ : Nat) (g1031 : Nat → Int) : SC :=
  ⟨[⟨64, slo 32 [(1, .fn (.func 65) [] [.ptr 1 0, .ptr 2 0]), (6, .sl 3 n3_), (11, .sl 0 n3), (12, I x1), (13, I x2)], [.code (bodyAt Tryz.f64 [1, 1, 0, 1, 0, 0]), .inLoop (bodyAt Tryz.f64 [1, 1, 0, 1, 0, 0]), .inBlock 0, .code (bodyAt Tryz.f64 [1, 1, 1])], {}⟩, ⟨30, [none, none, none, none, none, none, none, none, some (.sl 0 n3), some (.fn (.func 65) [] [.ptr 1 0, .ptr 2 0]), none, none, none], [.inRegion (opsAt Tryz.f30 [1, 0]) [2, 3, 4, 5, 6], .code (bodyAt Tryz.f30 [1, 1])], {}⟩], [some (.row false 29 n3 2 (fun i => [I (g4 i), I (g5 i)])), some (.box true [I x3]), some (.box true [I x4]), ro n3_ g1031]⟩
theorem accrue_All_w0 {X : Cx} {a1 a2 : Int} {n3 : Nat} {g4 g5 : Nat → Int} {res : SV} {new : List (Option Vw)} (hX : Fi X 30 [some (.row false 29 n3 2 (fun i => [I (g4 i), I (g5 i)]))] res new) (H : Ok X (accrue_All_h0 n3 g4 g5 ((n3 : Nat) : Int) 0 a1 a2 0 (fun _ => default))) :
    Ok X (entry Tryz.prog 30 [I a1, I a2, .sl 0 n3] [some (.row false 29 n3 2 (fun i => [I (g4 i), I (g5 i)]))]) := by
  exact hX.h 30 [i_] [.old 0, .old 1, .old 2, .nil 1] H
theorem accrue_All_w1 {X : Cx} {n3 : Nat} {g4 g5 : Nat → Int} {x1 x2 x3 x4 : Int} {n3_ : Nat} {g1031 : Nat → Int} {res : SV} {new : List (Option Vw)} (hX : Fi X 30 [some (.row false 29 n3 2 (fun i => [I (g4 i), I (g5 i)]))] res new) (H : (x2 < x1 → ((0 : Int) ≤ x2 ∧ x2 < ((n3 : Nat) : Int)) ∧ Ir x3 ∧ Ir x4 ∧ (((ofV x3 x4 (g4 x2.toNat) (g5 x2.toNat)).2) ≠ 0 → ((SV.tup [.val (.slice none 0 0), I ((ofV x3 x4 (g4 x2.toNat) (g5 x2.toNat)).2)]) = res ∧ sameHp [] new)) ∧ (((ofV x3 x4 (g4 x2.toNat) (g5 x2.toNat)).2) = 0 → ∃ q5005 : Nat → Int, (∀ k, k < (n3_ + 1) → q5005 k = if k < n3_ then (g1031 k) else ((ofV x3 x4 (g4 x2.toNat) (g5 x2.toNat)).1)) ∧ (n3_ + 1) * 8 ≤ 140737488355328 ∧ Ir (x2 + 1) ∧ Ok X (accrue_All_h0 n3 g4 g5 x1 (x2 + 1) x3 x4 (n3_ + 1) q5005))) ∧ (¬ x2 < x1 → ((SV.tup [.sl 1 n3_, I 0]) = res ∧ sameHp [ro n3_ g1031] new))) :
    Ok X (accrue_All_h0 n3 g4 g5 x1 x2 x3 x4 n3_ g1031) := by
  obtain ⟨H1, H2⟩ := H
  by_cases h0 : x2 < x1
  · obtain ⟨h1, h2, h3, H1, H2⟩ := H1 h0
    refine hX.go [t_ (dt h0), q_ h1, q_ (re n3), q_ h1, i_, c_ [] (show S 35 [I x3, I x4, .agg [I (g4 x2.toNat), I (g5 x2.toNat)]] [] (.tup [I ((ofV x3 x4 (g4 x2.toNat) (g5 x2.toNat)).1), I ((ofV x3 x4 (g4 x2.toNat) (g5 x2.toNat)).2)]) [] from aOf _ _ h2 h3)] ?_
    by_cases h4 : ((ofV x3 x4 (g4 x2.toNat) (g5 x2.toNat)).2) = 0
    · obtain ⟨q5005, h5, h6, h7, k⟩ := H2 h4
      exact hX.h 15 [f_ (bne_eq_false_iff_eq.2 h4), q_ (show ∀ k, k < 1 → (fun i => [I ((ofV x3 x4 (g4 x2.toNat) (g5 x2.toNat)).1)]) k = [[I ((ofV x3 x4 (g4 x2.toNat) (g5 x2.toNat)).1)]].getD k [] from by intro k hk; match k, hk with | 0, _ => rfl | k + 1, hk => omega), q_ (re 1), q_ (re n3_), q_ h6, q_ (show ∀ k, k < n3_ + 1 → (fun i => [I (q5005 i)]) k = if k < n3_ then (fun i => [I (g1031 i)]) k else (fun i => [I ((ofV x3 x4 (g4 x2.toNat) (g5 x2.toNat)).1)]) (k - n3_) from fun k hk => by
      have e0 := h5 k hk
      by_cases c : k < n3_
      · rw [if_pos c] at e0 ⊢; simp only [e0]
      · rw [if_neg c] at e0 ⊢; simp only [e0]), q_ h7, h_ [.row (fun i => [I ((ofV x3 x4 (g4 x2.toNat) (g5 x2.toNat)).1)]), .row (fun i => [I (q5005 i)])]] [.old 0, .old 1, .old 2, .old 7] k
    · obtain ⟨rfl, H⟩ := H1 h4
      exact (IsFin.same hX H).e [t_ (bne_iff_ne.2 h4)]
  · obtain ⟨rfl, H⟩ := H2 h0
    exact (IsFin.same hX H).e [f_ (df h0)] [3]

def allN (o r : Int) (g h : Nat → Int) (n : Nat) : Nat := if allE o r g h n = 0 then n else 0

theorem aAll {o r : Int} {n : Nat} {g h : Nat → Int} (h1 : Ir o) (h2 : Ir r) (hn : n ≤ 1000) : S 30 [I o, I r, .sl 0 n] [rr n g h] (.tup [.sl 1 (allN o r g h n), I (allE o r g h n)]) [ro (allN o r g h n) (fun i => (ofV o r (g i) (h i)).1)] := by
  refine SCall.of (by kernel_rfl) rfl ⟨fun i => rfl, trivial⟩ rfl (fun X hX => ?_)
  have key : ∀ m i : Nat, n - i = m → i ≤ n → allE o r g h i = 0 → ∀ q : Nat → Int, (∀ k, k < i → q k = (ofV o r (g k) (h k)).1) → Ok X (accrue_All_h0 n g h (n : Int) (i : Int) o r i q) := by
    intro m
    induction m with
    | zero =>
      intro i hm hi hE q hq
      have : i = n := by omega
      subst this
      rw [show allN o r g h i = i from if_pos hE, hE] at hX
      exact accrue_All_w1 hX ⟨fun c => by omega, fun _ => ⟨rfl, ⟨rfl, rfl, rfl, rfl, fun k hk => by simp only [hq k hk]⟩, trivial⟩⟩
    | succ m ih =>
      intro i hm hi hE q hq
      by_cases c : (ofV o r (g i) (h i)).2 = 0
      · refine accrue_All_w1 hX ⟨fun _ => ⟨⟨by omega, by omega⟩, h1, h2, fun z => absurd c z, fun _ => ⟨fun k => if k < i then q k else (ofV o r (g i) (h i)).1, fun k hk => rfl, by omega, by simp only [Ir, InR]; omega, ?_⟩⟩, fun z => by omega⟩
        exact ih (i + 1) (by omega) (by omega) (by unfold allE; rw [if_neg (fun z => z hE), c]) _ (fun k hk => by
          by_cases z : k < i
          · rw [if_pos z, hq k z]
          · rw [if_neg z, show k = i by omega])
      · have e := allE_stop hE c n (by omega)
        rw [show allN o r g h n = 0 from if_neg (by rw [e]; exact c), e] at hX
        exact accrue_All_w1 (IsFin.nilsl hX) ⟨fun _ => ⟨⟨by omega, by omega⟩, h1, h2, fun _ => ⟨rfl, trivial⟩, fun z => absurd z c⟩, fun z => by omega⟩
  exact accrue_All_w0 hX (key n 0 rfl (Nat.zero_le _) rfl _ (fun k hk => by omega))



noncomputable def demurrageref18_All_h0 (n3 : Nat) (g4 : Nat → Int) (g5 : Nat → Int) (x1 : Int) (x2 : Int) (x3 : Int) (n1_ : Nat) (g1011 : Nat → Int) : SC :=
  ⟨[⟨31, slo 36 [(0, I x1), (1, I x2), (2, .sl 0 n3), (8, .sl 1 n1_), (9, I x3)], [.code (bodyAt Tryz.f31 [1, 1, 0, 1, 0, 0]), .inLoop (bodyAt Tryz.f31 [1, 1, 0, 1, 0, 0]), .inBlock 0, .code (bodyAt Tryz.f31 [1, 1, 1])], {}⟩], [some (.row false 29 n3 2 (fun i => [I (g4 i), I (g5 i)])), ro n1_ g1011]⟩
theorem demurrageref18_All_w0 {X : Cx} {a1 a2 : Int} {n3 : Nat} {g4 g5 : Nat → Int} {res : SV} {new : List (Option Vw)} (hX : Fi X 31 [some (.row false 29 n3 2 (fun i => [I (g4 i), I (g5 i)]))] res new) (H : Ok X (demurrageref18_All_h0 n3 g4 g5 a1 a2 0 0 (fun _ => default))) :
    Ok X (entry Tryz.prog 31 [I a1, I a2, .sl 0 n3] [some (.row false 29 n3 2 (fun i => [I (g4 i), I (g5 i)]))]) := by
  exact hX.h 16 [] [.old 0, .nil 1] H
theorem demurrageref18_All_w1 {X : Cx} {n3 : Nat} {g4 g5 : Nat → Int} {x1 x2 x3 : Int} {n1_ : Nat} {g1011 : Nat → Int} {res : SV} {new : List (Option Vw)} (hX : Fi X 31 [some (.row false 29 n3 2 (fun i => [I (g4 i), I (g5 i)]))] res new) (H : (x3 < ((n3 : Nat) : Int) → ((0 : Int) ≤ x3 ∧ x3 < ((n3 : Nat) : Int)) ∧ Ir x1 ∧ Ir x2 ∧ (((ofV x1 x2 (g4 x3.toNat) (g5 x3.toNat)).2) ≠ 0 → ((SV.tup [.val (.slice none 0 0), I ((ofV x1 x2 (g4 x3.toNat) (g5 x3.toNat)).2)]) = res ∧ sameHp [] new)) ∧ (((ofV x1 x2 (g4 x3.toNat) (g5 x3.toNat)).2) = 0 → ∃ q5004 : Nat → Int, (∀ k, k < (n1_ + 1) → q5004 k = if k < n1_ then (g1011 k) else ((ofV x1 x2 (g4 x3.toNat) (g5 x3.toNat)).1)) ∧ (n1_ + 1) * 8 ≤ 140737488355328 ∧ Ir (x3 + 1) ∧ Ok X (demurrageref18_All_h0 n3 g4 g5 x1 x2 (x3 + 1) (n1_ + 1) q5004))) ∧ (¬ x3 < ((n3 : Nat) : Int) → ((SV.tup [.sl 1 n1_, I 0]) = res ∧ sameHp [ro n1_ g1011] new))) :
    Ok X (demurrageref18_All_h0 n3 g4 g5 x1 x2 x3 n1_ g1011) := by
  obtain ⟨H1, H2⟩ := H
  by_cases h0 : x3 < ((n3 : Nat) : Int)
  · obtain ⟨h1, h2, h3, H1, H2⟩ := H1 h0
    refine hX.go [t_ (dt h0), q_ h1, q_ (re n3), q_ h1, c_ [] (show S 36 [I x1, I x2, .agg [I (g4 x3.toNat), I (g5 x3.toNat)]] [] (.tup [I ((ofV x1 x2 (g4 x3.toNat) (g5 x3.toNat)).1), I ((ofV x1 x2 (g4 x3.toNat) (g5 x3.toNat)).2)]) [] from a18Of _ _ h2 h3)] ?_
    by_cases h4 : ((ofV x1 x2 (g4 x3.toNat) (g5 x3.toNat)).2) = 0
    · obtain ⟨q5004, h5, h6, h7, k⟩ := H2 h4
      exact hX.h 16 [f_ (bne_eq_false_iff_eq.2 h4), q_ (show ∀ k, k < 1 → (fun i => [I ((ofV x1 x2 (g4 x3.toNat) (g5 x3.toNat)).1)]) k = [[I ((ofV x1 x2 (g4 x3.toNat) (g5 x3.toNat)).1)]].getD k [] from by intro k hk; match k, hk with | 0, _ => rfl | k + 1, hk => omega), q_ (re 1), q_ (re n1_), q_ h6, q_ (show ∀ k, k < n1_ + 1 → (fun i => [I (q5004 i)]) k = if k < n1_ then (fun i => [I (g1011 i)]) k else (fun i => [I ((ofV x1 x2 (g4 x3.toNat) (g5 x3.toNat)).1)]) (k - n1_) from fun k hk => by
      have e0 := h5 k hk
      by_cases c : k < n1_
      · rw [if_pos c] at e0 ⊢; simp only [e0]
      · rw [if_neg c] at e0 ⊢; simp only [e0]), q_ h7, h_ [.row (fun i => [I ((ofV x1 x2 (g4 x3.toNat) (g5 x3.toNat)).1)]), .row (fun i => [I (q5004 i)])]] [.old 0, .old 3] k
    · obtain ⟨rfl, H⟩ := H1 h4
      exact (IsFin.same hX H).e [t_ (bne_iff_ne.2 h4)]
  · obtain ⟨rfl, H⟩ := H2 h0
    exact (IsFin.same hX H).e [f_ (df h0)] [1]

theorem a18All {o r : Int} {n : Nat} {g h : Nat → Int} (h1 : Ir o) (h2 : Ir r) (hn : n ≤ 1000) : S 31 [I o, I r, .sl 0 n] [rr n g h] (.tup [.sl 1 (allN o r g h n), I (allE o r g h n)]) [ro (allN o r g h n) (fun i => (ofV o r (g i) (h i)).1)] := by
  refine SCall.of (by kernel_rfl) rfl ⟨fun i => rfl, trivial⟩ rfl (fun X hX => ?_)
  have key : ∀ m i : Nat, n - i = m → i ≤ n → allE o r g h i = 0 → ∀ q : Nat → Int, (∀ k, k < i → q k = (ofV o r (g k) (h k)).1) → Ok X (demurrageref18_All_h0 n g h o r (i : Int) i q) := by
    intro m
    induction m with
    | zero =>
      intro i hm hi hE q hq
      have : i = n := by omega
      subst this
      rw [show allN o r g h i = i from if_pos hE, hE] at hX
      exact demurrageref18_All_w1 hX ⟨fun c => by omega, fun _ => ⟨rfl, ⟨rfl, rfl, rfl, rfl, fun k hk => by simp only [hq k hk]⟩, trivial⟩⟩
    | succ m ih =>
      intro i hm hi hE q hq
      by_cases c : (ofV o r (g i) (h i)).2 = 0
      · refine demurrageref18_All_w1 hX ⟨fun _ => ⟨⟨by omega, by omega⟩, h1, h2, fun z => absurd c z, fun _ => ⟨fun k => if k < i then q k else (ofV o r (g i) (h i)).1, fun k hk => rfl, by omega, by simp only [Ir, InR]; omega, ?_⟩⟩, fun z => by omega⟩
        exact ih (i + 1) (by omega) (by omega) (by unfold allE; rw [if_neg (fun z => z hE), c]) _ (fun k hk => by
          by_cases z : k < i
          · rw [if_pos z, hq k z]
          · rw [if_neg z, show k = i by omega])
      · have e := allE_stop hE c n (by omega)
        rw [show allN o r g h n = 0 from if_neg (by rw [e]; exact c), e] at hX
        exact demurrageref18_All_w1 (IsFin.nilsl hX) ⟨fun _ => ⟨⟨by omega, by omega⟩, h1, h2, fun _ => ⟨rfl, trivial⟩, fun z => absurd z c⟩, fun z => by omega⟩
  exact demurrageref18_All_w0 hX (key n 0 rfl (Nat.zero_le _) rfl _ (fun k hk => by omega))



theorem accrue_Between_w {a1 a2 a3 a4 a5 a6 a7 : Int} {a8 a9 a10 : Bool} {a11 : Int} {a12 : Bool} {a13 a14 : Int} {n15 : Nat} {g16 : Nat → Int} {a17 a18 a19 : Int} {res : SV} (H : (((partC a4 a18 a19 a12 a13 a14 n15 g16).2.2) ≠ 0 → (SV.tup [I 0, I ((partC a4 a18 a19 a12 a13 a14 n15 g16).2.2)]) = res) ∧ (((partC a4 a18 a19 a12 a13 a14 n15 g16).2.2) = 0 → Ir a17 ∧ Ir a2 ∧ (SV.tup [I ((ofV a17 a2 ((partC a4 a18 a19 a12 a13 a14 n15 g16).1) ((partC a4 a18 a19 a12 a13 a14 n15 g16).2.1)).1), I ((ofV a17 a2 ((partC a4 a18 a19 a12 a13 a14 n15 g16).1) ((partC a4 a18 a19 a12 a13 a14 n15 g16).2.1)).2)]) = res)) :
    S 32 [.agg [I a1, I a2, I a3, I a4, I a5, I a6, I a7, B a8, B a9, B a10, I a11], .agg [B a12, I a13, I a14, .sl 0 n15], I a17, I a18, I a19] [ri n15 g16] res [] := by
  refine SCall.st fun X hX => ?_
  obtain ⟨H1, H2⟩ := H
  refine hX.go [c_ [0] (show S 20 [I a4, I a18, I a19, .agg [B a12, I a13, I a14, .sl 0 n15]] [ri n15 g16] (RT (partC a4 a18 a19 a12 a13 a14 n15 g16)) [] from cPart _ _ _)] ?_
  by_cases h0 : ((partC a4 a18 a19 a12 a13 a14 n15 g16).2.2) = 0
  · obtain ⟨h1, h2, rfl⟩ := H2 h0
    exact hX.e [f_ (bne_eq_false_iff_eq.2 h0), c_ [] (show S 35 [I a17, I a2, .agg [I ((partC a4 a18 a19 a12 a13 a14 n15 g16).1), I ((partC a4 a18 a19 a12 a13 a14 n15 g16).2.1)]] [] (.tup [I ((ofV a17 a2 ((partC a4 a18 a19 a12 a13 a14 n15 g16).1) ((partC a4 a18 a19 a12 a13 a14 n15 g16).2.1)).1), I ((ofV a17 a2 ((partC a4 a18 a19 a12 a13 a14 n15 g16).1) ((partC a4 a18 a19 a12 a13 a14 n15 g16).2.1)).2)]) [] from aOf _ _ h1 h2)]
  · obtain rfl := H1 h0
    exact hX.e [t_ (bne_iff_ne.2 h0)]

theorem aBet {a1 a2 a3 a4 a5 a6 a7 a11 a13 a14 a17 a18 a19 : Int} {a8 a9 a10 a12 : Bool} {n15 : Nat} {g16 : Nat → Int} (h1 : Ir a17) (h2 : Ir a2) :
    S 32 [.agg [I a1, I a2, I a3, I a4, I a5, I a6, I a7, B a8, B a9, B a10, I a11], .agg [B a12, I a13, I a14, .sl 0 n15], I a17, I a18, I a19] [ri n15 g16] (IT (btV (partC a4 a18 a19 a12 a13 a14 n15 g16) a17 a2)) [] := by
  refine accrue_Between_w ⟨fun c => ?_, fun c => ⟨h1, h2, ?_⟩⟩
  · rw [show btV (partC a4 a18 a19 a12 a13 a14 n15 g16) a17 a2 = (0, (partC a4 a18 a19 a12 a13 a14 n15 g16).2.2) from if_neg c]
  · rw [show btV (partC a4 a18 a19 a12 a13 a14 n15 g16) a17 a2 = ofV a17 a2 (partC a4 a18 a19 a12 a13 a14 n15 g16).1 (partC a4 a18 a19 a12 a13 a14 n15 g16).2.1 from if_pos c]



theorem demurrageref18_Between_w {a1 a2 a3 a4 a5 a6 a7 : Int} {a8 a9 a10 : Bool} {a11 : Int} {a12 : Bool} {a13 a14 : Int} {n15 : Nat} {g16 : Nat → Int} {a17 a18 a19 : Int} {res : SV} (H : (((partC a4 a18 a19 a12 a13 a14 n15 g16).2.2) ≠ 0 → (SV.tup [I 0, I ((partC a4 a18 a19 a12 a13 a14 n15 g16).2.2)]) = res) ∧ (((partC a4 a18 a19 a12 a13 a14 n15 g16).2.2) = 0 → Ir a17 ∧ Ir a2 ∧ (SV.tup [I ((ofV a17 a2 ((partC a4 a18 a19 a12 a13 a14 n15 g16).1) ((partC a4 a18 a19 a12 a13 a14 n15 g16).2.1)).1), I ((ofV a17 a2 ((partC a4 a18 a19 a12 a13 a14 n15 g16).1) ((partC a4 a18 a19 a12 a13 a14 n15 g16).2.1)).2)]) = res)) :
    S 33 [.agg [I a1, I a2, I a3, I a4, I a5, I a6, I a7, B a8, B a9, B a10, I a11], .agg [B a12, I a13, I a14, .sl 0 n15], I a17, I a18, I a19] [ri n15 g16] res [] := by
  refine SCall.st fun X hX => ?_
  obtain ⟨H1, H2⟩ := H
  refine hX.go [c_ [0] (show S 21 [I a4, I a18, I a19, .agg [B a12, I a13, I a14, .sl 0 n15]] [ri n15 g16] (RT (partC a4 a18 a19 a12 a13 a14 n15 g16)) [] from rPart _ _ _)] ?_
  by_cases h0 : ((partC a4 a18 a19 a12 a13 a14 n15 g16).2.2) = 0
  · obtain ⟨h1, h2, rfl⟩ := H2 h0
    exact hX.e [f_ (bne_eq_false_iff_eq.2 h0), c_ [] (show S 36 [I a17, I a2, .agg [I ((partC a4 a18 a19 a12 a13 a14 n15 g16).1), I ((partC a4 a18 a19 a12 a13 a14 n15 g16).2.1)]] [] (.tup [I ((ofV a17 a2 ((partC a4 a18 a19 a12 a13 a14 n15 g16).1) ((partC a4 a18 a19 a12 a13 a14 n15 g16).2.1)).1), I ((ofV a17 a2 ((partC a4 a18 a19 a12 a13 a14 n15 g16).1) ((partC a4 a18 a19 a12 a13 a14 n15 g16).2.1)).2)]) [] from a18Of _ _ h1 h2)]
  · obtain rfl := H1 h0
    exact hX.e [t_ (bne_iff_ne.2 h0)]

theorem a18Bet {a1 a2 a3 a4 a5 a6 a7 a11 a13 a14 a17 a18 a19 : Int} {a8 a9 a10 a12 : Bool} {n15 : Nat} {g16 : Nat → Int} (h1 : Ir a17) (h2 : Ir a2) :
    S 33 [.agg [I a1, I a2, I a3, I a4, I a5, I a6, I a7, B a8, B a9, B a10, I a11], .agg [B a12, I a13, I a14, .sl 0 n15], I a17, I a18, I a19] [ri n15 g16] (IT (btV (partC a4 a18 a19 a12 a13 a14 n15 g16) a17 a2)) [] := by
  refine demurrageref18_Between_w ⟨fun c => ?_, fun c => ⟨h1, h2, ?_⟩⟩
  · rw [show btV (partC a4 a18 a19 a12 a13 a14 n15 g16) a17 a2 = (0, (partC a4 a18 a19 a12 a13 a14 n15 g16).2.2) from if_neg c]
  · rw [show btV (partC a4 a18 a19 a12 a13 a14 n15 g16) a17 a2 = ofV a17 a2 (partC a4 a18 a19 a12 a13 a14 n15 g16).1 (partC a4 a18 a19 a12 a13 a14 n15 g16).2.1 from if_pos c]



theorem aBet3n_w {a1 a2 a3 a4 a5 a6 : Int} {a7 a8 a9 : Bool} {a10 : Int} {a11 : Bool} {a12 a13 a14 a15 a16 : Int} {res : SV} (H : (((r8 a15 a16 360).2.2) ≠ 0 → (SV.tup [I 0, I ((r8 a15 a16 360).2.2)]) = res) ∧ (((r8 a15 a16 360).2.2) = 0 → Ir a14 ∧ Ir a2 ∧ (SV.tup [I ((ofV a14 a2 ((r8 a15 a16 360).1) ((r8 a15 a16 360).2.1)).1), I ((ofV a14 a2 ((r8 a15 a16 360).1) ((r8 a15 a16 360).2.1)).2)]) = res)) :
    S 32 [.agg [I a1, I a2, I a3, I 3, I a4, I a5, I a6, B a7, B a8, B a9, I a10], .agg [B a11, I a12, I a13, .val (.slice none 0 0)], I a14, I a15, I a16] [] res [] := by
  refine SCall.st fun X hX => ?_
  obtain ⟨H1, H2⟩ := H
  refine hX.go [c_ [] (show S 20 [I 3, I a15, I a16, .agg [B a11, I a12, I a13, .val (.slice none 0 0)]] [] (RT (r8 a15 a16 360)) [] from cPart3n_w rfl)] ?_
  by_cases h0 : ((r8 a15 a16 360).2.2) = 0
  · obtain ⟨h1, h2, rfl⟩ := H2 h0
    exact hX.e [f_ (bne_eq_false_iff_eq.2 h0), c_ [] (show S 35 [I a14, I a2, .agg [I ((r8 a15 a16 360).1), I ((r8 a15 a16 360).2.1)]] [] (.tup [I ((ofV a14 a2 ((r8 a15 a16 360).1) ((r8 a15 a16 360).2.1)).1), I ((ofV a14 a2 ((r8 a15 a16 360).1) ((r8 a15 a16 360).2.1)).2)]) [] from aOf _ _ h1 h2)]
  · obtain rfl := H1 h0
    exact hX.e [t_ (bne_iff_ne.2 h0)]

noncomputable def demurrageref18_Usual_h0 (n1 : Nat) (g2 : Nat → Int) (g3 : Nat → Int) (x1 : Int) : SC :=
  ⟨[⟨37, slo 48 [(0, .sl 0 n1), (3, I x1)], [.code (bodyAt Tryz.f37 [1, 0, 1, 0, 0]), .inLoop (bodyAt Tryz.f37 [1, 0, 1, 0, 0]), .inBlock 0, .code (bodyAt Tryz.f37 [1, 1])], {}⟩], [some (.row false 29 n1 2 (fun i => [I (g2 i), I (g3 i)]))]⟩
theorem demurrageref18_Usual_w0 {X : Cx} {n1 : Nat} {g2 g3 : Nat → Int} {res : SV} (hX : Fi X 37 [some (.row false 29 n1 2 (fun i => [I (g2 i), I (g3 i)]))] res []) (H : Ok X (demurrageref18_Usual_h0 n1 g2 g3 0)) :
    Ok X (entry Tryz.prog 37 [.sl 0 n1] [some (.row false 29 n1 2 (fun i => [I (g2 i), I (g3 i)]))]) := by
  exact hX.h 11 [] (oldM 1) H
theorem demurrageref18_Usual_w1 {X : Cx} {n1 : Nat} {g2 g3 : Nat → Int} {x1 : Int} {res : SV} (hX : Fi X 37 [some (.row false 29 n1 2 (fun i => [I (g2 i), I (g3 i)]))] res []) (H : (x1 < ((n1 : Nat) : Int) → ((0 : Int) ≤ x1 ∧ x1 < ((n1 : Nat) : Int)) ∧ ((rightB (g2 x1.toNat) (g3 x1.toNat)) = false → B false = res) ∧ ((rightB (g2 x1.toNat) (g3 x1.toNat)) = true → ((g2 x1.toNat) > 10000000000000 → B false = res) ∧ (¬ (g2 x1.toNat) > 10000000000000 → ((g3 x1.toNat) > 10000000000000 → B false = res) ∧ (¬ (g3 x1.toNat) > 10000000000000 → Ir (100 * (g3 x1.toNat)) ∧ ((g2 x1.toNat) > (100 * (g3 x1.toNat)) → B false = res) ∧ (¬ (g2 x1.toNat) > (100 * (g3 x1.toNat)) → Ir (x1 + 1) ∧ Ok X (demurrageref18_Usual_h0 n1 g2 g3 (x1 + 1))))))) ∧ (¬ x1 < ((n1 : Nat) : Int) → B true = res)) :
    Ok X (demurrageref18_Usual_h0 n1 g2 g3 x1) := by
  obtain ⟨H1, H2⟩ := H
  by_cases h0 : x1 < ((n1 : Nat) : Int)
  · obtain ⟨h1, H1, H2⟩ := H1 h0
    refine hX.go [t_ (dt h0), q_ h1, q_ (re n1), q_ h1, c_ [] (show S 27 [.agg [I (g2 x1.toNat), I (g3 x1.toNat)]] [] (B (rightB (g2 x1.toNat) (g3 x1.toNat))) [] from rRight _ _)] ?_
    rcases bcase (rightB (g2 x1.toNat) (g3 x1.toNat)) with h2 | h2
    · obtain ⟨H1, H2⟩ := H2 h2
      by_cases h3 : (g2 x1.toNat) > 10000000000000
      · obtain rfl := H1 h3
        exact hX.e [d_ 30, f_ (nf h2), f_ (nf h2), f_ (nf h2), q_ h1, q_ (re n1), f_ (nf h2), q_ h1, f_ (nf h2), q_ h1, f_ (nf h2), f_ (nf h2), t_ (dt h3), t_ (dt h3), t_ (dt h3), t_ (dt h3), t_ (dt h3), t_ (dt h3), t_ (dt h3), t_ rt, t_ rt, t_ rt, t_ rt, t_ rt, t_ rt, t_ rt, t_ rt, t_ rt, t_ rt, t_ rt, t_ rt, t_ rt, t_ rt]
      · obtain ⟨H1, H2⟩ := H2 h3
        by_cases h4 : (g3 x1.toNat) > 10000000000000
        · obtain rfl := H1 h4
          exact hX.e [d_ 30, f_ (nf h2), f_ (nf h2), f_ (nf h2), q_ h1, q_ (re n1), f_ (nf h2), q_ h1, f_ (nf h2), q_ h1, f_ (nf h2), f_ (nf h2), f_ (df h3), f_ (df h3), f_ (df h3), q_ h1, q_ (re n1), f_ (df h3), q_ h1, f_ (df h3), q_ h1, f_ (df h3), f_ (df h3), t_ (dt h4), t_ (dt h4), t_ (dt h4), t_ (dt h4), t_ (dt h4), t_ (dt h4), t_ (dt h4), t_ (dt h4), t_ (dt h4), t_ (dt h4), t_ (dt h4), t_ (dt h4), t_ (dt h4), t_ rt]
        · obtain ⟨h5, H1, H2⟩ := H2 h4
          refine hX.go [d_ 30, f_ (nf h2), f_ (nf h2), f_ (nf h2), q_ h1, q_ (re n1), f_ (nf h2), q_ h1, f_ (nf h2), q_ h1, f_ (nf h2), f_ (nf h2), f_ (df h3), f_ (df h3), f_ (df h3), q_ h1, q_ (re n1), f_ (df h3), q_ h1, f_ (df h3), q_ h1, f_ (df h3), f_ (df h3), f_ (df h4), f_ (df h4), f_ (df h4), q_ h1, q_ (re n1), f_ (df h4), q_ h1, f_ (df h4), q_ h1, f_ (df h4), f_ (df h4), f_ (df h4), q_ h1, q_ (re n1), f_ (df h4), q_ h1, f_ (df h4), q_ h1, f_ (df h4), q_ h5, f_ (df h4), f_ (df h4)] ?_
          by_cases h6 : (g2 x1.toNat) > (100 * (g3 x1.toNat))
          · obtain rfl := H1 h6
            exact hX.e [t_ (dt h6)]
          · obtain ⟨h7, k⟩ := H2 h6
            exact hX.h 9 [f_ (df h6), q_ h7] (oldM 1) k
    · obtain rfl := H1 h2
      exact hX.e [d_ 30, t_ (nt h2), t_ (nt h2), t_ (nt h2), t_ (nt h2), t_ (nt h2), t_ (nt h2), t_ (nt h2), t_ rt, t_ rt, t_ rt, t_ rt, t_ rt, t_ rt, t_ rt, t_ rt, t_ rt, t_ rt, t_ rt, t_ rt, t_ rt, t_ rt, t_ rt, t_ rt, t_ rt, t_ rt, t_ rt, t_ rt, t_ rt]
  · obtain rfl := H2 h0
    exact hX.e [f_ (df h0)]

theorem okU_iff {n d : Int} : okU n d = true ↔ rightB n d = true ∧ n ≤ 10000000000000 ∧ d ≤ 10000000000000 ∧ n ≤ 100 * d := by unfold okU; rw [Bool.and_eq_true, decide_eq_true_iff]

theorem rUsual {n : Nat} {g h : Nat → Int} (hn : n ≤ 1000) : S 37 [.sl 0 n] [rr n g h] (B (usB g h n)) [] := by
  refine SCall.of (by kernel_rfl) rfl ⟨fun i => rfl, trivial⟩ rfl (fun X hX => ?_)
  have bad : ∀ i, i < n → ¬ okU (g i) (h i) = true → usB g h n = false := fun i hi hf => decide_eq_false fun q => hf (q i hi)
  have key : ∀ m i : Nat, n - i = m → i ≤ n → (∀ k, k < i → okU (g k) (h k) = true) → Ok X (demurrageref18_Usual_h0 n g h (i : Int)) := by
    intro m
    induction m with
    | zero =>
      intro i hm hi hq
      have : i = n := by omega
      subst this
      refine demurrageref18_Usual_w1 hX ⟨fun c => by omega, fun _ => ?_⟩
      rw [show usB g h i = true from decide_eq_true hq]
    | succ m ih =>
      intro i hm hi hq
      refine demurrageref18_Usual_w1 hX ⟨fun _ => ⟨⟨by omega, by omega⟩, fun c => ?_, fun c1 => ⟨fun c => ?_, fun c2 => ⟨fun c => ?_, fun c3 => ?_⟩⟩⟩, fun c => by omega⟩
      · rw [bad i (by omega) (fun q => by have := (okU_iff.1 q).1; rw [show (i : Int).toNat = i from rfl] at c; rw [c] at this; exact absurd this (by decide))]
      · rw [bad i (by omega) (fun q => by have := (okU_iff.1 q).2; rw [show (i : Int).toNat = i from rfl] at c; omega)]
      · rw [bad i (by omega) (fun q => by have := (okU_iff.1 q).2; rw [show (i : Int).toNat = i from rfl] at c; omega)]
      · rw [show (i : Int).toNat = i from rfl] at c1 c2 c3 ⊢
        have h := of_decide_eq_true c1
        refine ⟨by simp only [Ir, InR]; omega, fun c => ?_, fun c4 => ⟨by simp only [Ir, InR]; omega, ?_⟩⟩
        · rw [bad i (by omega) (fun q => by have := (okU_iff.1 q).2; omega)]
        · exact ih (i + 1) (by omega) (by omega) (fun k hk => by
            by_cases z : k < i
            · exact hq k z
            · rw [show k = i by omega]; exact okU_iff.2 ⟨c1, by omega, by omega, by omega⟩)
  exact demurrageref18_Usual_w0 hX (key n 0 rfl (Nat.zero_le _) (fun k hk => by omega))



noncomputable def demurrageref01_Row_h0 (n1 : Nat) (g2 : Nat → Int) (n3 : Nat) (g4 : Nat → Int) (x1 : Int) : SC :=
  ⟨[⟨34, slo 26 [(0, .sl 0 n1), (1, .sl 1 n3), (5, I x1)], [.code (bodyAt Tryz.f34 [1, 1, 0, 1, 0, 0]), .inLoop (bodyAt Tryz.f34 [1, 1, 0, 1, 0, 0]), .inBlock 0, .code (bodyAt Tryz.f34 [1, 1, 1])], {}⟩], [ri n1 g2, ri n3 g4]⟩
theorem demurrageref01_Row_w0 {X : Cx} {n1 : Nat} {g2 : Nat → Int} {n3 : Nat} {g4 : Nat → Int} {res : SV} (hX : Fi X 34 [ri n1 g2, ri n3 g4] res []) (H : (((n1 : Nat) : Int) ≠ ((n3 : Nat) : Int) → B false = res) ∧ (((n1 : Nat) : Int) = ((n3 : Nat) : Int) → Ok X (demurrageref01_Row_h0 n1 g2 n3 g4 0))) :
    Ok X (entry Tryz.prog 34 [.sl 0 n1, .sl 1 n3] [ri n1 g2, ri n3 g4]) := by
  obtain ⟨H1, H2⟩ := H
  by_cases h0 : ((n1 : Nat) : Int) = ((n3 : Nat) : Int)
  · exact hX.h 22 [f_ (bne_eq_false_iff_eq.2 h0)] (oldM 2) (H2 h0)
  · obtain rfl := H1 h0
    exact hX.e [t_ (bne_iff_ne.2 h0)]
theorem demurrageref01_Row_w1 {X : Cx} {n1 : Nat} {g2 : Nat → Int} {n3 : Nat} {g4 : Nat → Int} {x1 : Int} {res : SV} (hX : Fi X 34 [ri n1 g2, ri n3 g4] res []) (H : (x1 < ((n1 : Nat) : Int) → ((0 : Int) ≤ x1 ∧ x1 < ((n1 : Nat) : Int)) ∧ ((0 : Int) ≤ x1 ∧ x1 < ((n3 : Nat) : Int)) ∧ ((g2 x1.toNat) ≠ (g4 x1.toNat) → B false = res) ∧ ((g2 x1.toNat) = (g4 x1.toNat) → Ir (x1 + 1) ∧ Ok X (demurrageref01_Row_h0 n1 g2 n3 g4 (x1 + 1)))) ∧ (¬ x1 < ((n1 : Nat) : Int) → B true = res)) :
    Ok X (demurrageref01_Row_h0 n1 g2 n3 g4 x1) := by
  obtain ⟨H1, H2⟩ := H
  by_cases h0 : x1 < ((n1 : Nat) : Int)
  · obtain ⟨h1, h2, H1, H2⟩ := H1 h0
    refine hX.go [t_ (dt h0), q_ h1, q_ (re n1), q_ h1, q_ h2, q_ (re n3), q_ h2, d_ 8] ?_
    by_cases h3 : (g2 x1.toNat) = (g4 x1.toNat)
    · obtain ⟨h4, k⟩ := H2 h3
      exact hX.h 9 [f_ (bne_eq_false_iff_eq.2 h3), q_ h4] (oldM 2) k
    · obtain rfl := H1 h3
      exact hX.e [t_ (bne_iff_ne.2 h3)]
  · obtain rfl := H2 h0
    exact hX.e [f_ (df h0)]

theorem rRow {n m : Nat} {f g : Nat → Int} (hn : n < 9223372036854775807) : S 34 [.sl 0 n, .sl 1 m] [ri n f, ri m g] (B (decide (n = m ∧ ∀ i, i < n → f i = g i))) [] := by
  refine SCall.of (by kernel_rfl) rfl ⟨fun i => rfl, fun i => rfl, trivial⟩ rfl (fun X hX => ?_)
  refine demurrageref01_Row_w0 hX ⟨fun c => ?_, fun c => ?_⟩
  · rw [decide_eq_false (fun q => c (by rw [q.1]))]
  · have hnm : n = m := by omega
    subst hnm
    have key : ∀ k i : Nat, n - i = k → i ≤ n → (∀ j, j < i → f j = g j) → Ok X (demurrageref01_Row_h0 n f n g (i : Int)) := by
      intro k
      induction k with
      | zero =>
        intro i hm hi hq
        have : i = n := by omega
        subst this
        refine demurrageref01_Row_w1 hX ⟨fun c => by omega, fun _ => ?_⟩
        rw [decide_eq_true ⟨rfl, hq⟩]
      | succ k ih =>
        intro i hm hi hq
        refine demurrageref01_Row_w1 hX ⟨fun _ => ⟨⟨by omega, by omega⟩, ⟨by omega, by omega⟩, fun c => ?_, fun c => ⟨by simp only [Ir, InR]; omega, ?_⟩⟩, fun c => by omega⟩
        · rw [decide_eq_false (fun q => c (q.2 i (by omega)))]
        · exact ih (i + 1) (by omega) (by omega) (fun j hj => by
            by_cases z : j < i
            · exact hq j z
            · rw [show j = i by omega]; exact c)
    exact key n 0 rfl (Nat.zero_le _) (fun k hk => by omega)



theorem aBetn {a1 a2 a3 a5 a6 a7 a11 a13 a14 a17 a18 a19 : Int} {a8 a9 a10 a12 : Bool} (h1 : Ir a17) (h2 : Ir a2) :
    S 32 [.agg [I a1, I a2, I a3, I 3, I a5, I a6, I a7, B a8, B a9, B a10, I a11], .agg [B a12, I a13, I a14, .val (.slice none 0 0)], I a17, I a18, I a19] [] (IT (btV (r8 a18 a19 360) a17 a2)) [] := by
  refine aBet3n_w ⟨fun c => ?_, fun c => ⟨h1, h2, ?_⟩⟩
  · rw [show btV (r8 a18 a19 360) a17 a2 = (0, (r8 a18 a19 360).2.2) from if_neg c]
  · rw [show btV (r8 a18 a19 360) a17 a2 = ofV a17 a2 (r8 a18 a19 360).1 (r8 a18 a19 360).2.1 from if_pos c]


end Go.Proofs.YtehnnaanpmceiaaGreatDoor
