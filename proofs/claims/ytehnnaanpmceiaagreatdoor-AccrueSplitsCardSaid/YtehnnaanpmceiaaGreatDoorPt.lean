import Derived.Test.YtehnnaanpmceiaaGreatDoorSum
import Derived.Test.YtehnnaanpmceiaaGreatDoorAs
import Derived.Test.YtehnnaanpmceiaaGreatDoorProg
import Derived.KernelRfl
import Derived.Laws.Externs
set_option linter.unusedVariables false
set_option linter.unusedSimpArgs false
set_option linter.unusedSectionVars false
set_option maxRecDepth 100000
namespace Go.Proofs.YtehnnaanpmceiaaGreatDoor
open Go Go.Sx
variable [Env]

theorem as_nil_S {n : Int} : SCall Tryz.prog GL 74 [.val .nilIface, .ifc 192 (.ptr 0 0)] [some (.box false [I n])] (B false) [] := by
  intro θ w hh hg cs
  obtain ⟨e, w', fr', ⟨rfl, rfl⟩, hc, h3, h4⟩ := as_nil (den θ (.ifc 192 (.ptr 0 0))) w cs
  refine ⟨_, _, fr', ⟨Go.RowKit.Below.refl _ _, _, rfl, fun _ => ⟨none, 0, 0⟩, fun θ' hs _ => ⟨rfl, hh.sc hs ⟨rfl, trivial⟩⟩⟩, hc, h3, h4⟩


theorem icma_Part_0 {a1 a2 : Int} {n3 : Nat} {g4 : Nat → Int} {a5 r6 r7 : Int} (h0 : S 131 [I a1, I a2, .sl 0 n3, I a5] [ri n3 g4] (.tup [.agg [I r6, I r7], .val .nilIface]) []) :
    S 86 [I a1, I a2, .sl 0 n3, I a5] [ri n3 g4] (.tup [.agg [I r6, I r7], I 0]) [] :=
  SCall.path 38 [.call [0] (.tup [.agg [I r6, I r7], .val .nilIface]) [], .call [3] (B false) [], fb] [] 4 (by kernel_rfl) rfl (by exact ⟨fun _ => rfl, trivial⟩) (ca h0 (ca (show S 74 [.val .nilIface, .ifc 192 (.ptr 0 0)] [some (.box false [I 0])] (B false) [] from as_nil_S) (ca rf na)))
noncomputable def icma_Part_h0 (n3 : Nat) (g4 : Nat → Int) (x1 : Int) (x2 : Int) (x3 : Int) : SC :=
  ⟨[⟨86, [none, none, none, none, none, none, none, none, some (.ptr 1 0), none, some (.ptr 2 0), none, some (.ptr 3 0), none, none, none, none, none, none, none, none, some (.ifc 191 (.agg [I x1])), some (.ifc 192 (.ptr 3 0)), none, none, none, none, none], [.inRegion (opsAt Tryz.f86 [1, 1, 1, 0, 0]) [2], .code (bodyAt Tryz.f86 [1, 1, 1, 0, 1]), .code (bodyAt Tryz.f86 [1, 1, 1, 1])], {}⟩], [ri n3 g4, some (.box true [I x2, I x3]), some (.box true [I 0, I 0]), some (.box true [I 0])]⟩
theorem icma_Part_1 {X : Cx} {res : SV} {new : List (Option Vw)} {a1 a2 : Int} {n3 : Nat} {g4 : Nat → Int} {a5 r6 : Int} (hX : Fi X 86 [ri n3 g4] res new) (h0 : S 131 [I a1, I a2, .sl 0 n3, I a5] [ri n3 g4] (.tup [.agg [I 0, I 0], .ifc 191 (.agg [I r6])]) []) (k : Ok X (icma_Part_h0 n3 g4 r6 0 0)) :
    Ok X (entry Tryz.prog 86 [I a1, I a2, .sl 0 n3, I a5] [ri n3 g4]) :=
  Ok.cutM 28 [.call [0] (.tup [.agg [I 0, I 0], .ifc 191 (.agg [I r6])]) []] [msk 28 [8, 10, 12, 21, 22]] [.old 0, .old 1, .old 2, .old 3] 1 hX.P hX.gl hX.n0 (by kernel_rfl) (by kernel_rfl) (by exact ⟨fun _ => rfl, rfl, rfl, rfl, trivial⟩) (ca h0 na) k
noncomputable def icma_Part_b (n3 : Nat) (g4 : Nat → Int) (x1 : Int) (x2 : Int) (x3 : Int) : SC :=
  ⟨[⟨86, [none, none, none, none, none, none, none, none, some (.ptr 1 0), none, some (.ptr 2 0), none, some (.ptr 3 0), none, none, none, none, none, none, none, none, some (.ifc 191 (.agg [I x1])), some (.ifc 192 (.ptr 3 0)), some (B true), none, none, none, none], [.inRegion (opsAt Tryz.f86 [1, 1, 1, 0, 0]) [], .code (bodyAt Tryz.f86 [1, 1, 1, 0, 1]), .code (bodyAt Tryz.f86 [1, 1, 1, 1])], {}⟩], [ri n3 g4, some (.box true [I x2, I x3]), some (.box true [I 0, I 0]), some (.box true [I x1])]⟩
theorem icma_Part_2 {X : Cx} {n3 : Nat} {g4 : Nat → Int} {x1 x2 x3 : Int} (hX : Fi X 86 [ri n3 g4] (.tup [.agg [I 0, I 0], I x1]) [])  :
    Ok X (icma_Part_b n3 g4 x1 x2 x3) :=
  Ok.fin 6 [tb, .draw 3 [1, 2] 1] [] 4 hX (by kernel_rfl) rfl (ca rt (ca (show (.ptr 3 0 : SV) = .ptr 3 0 from rfl) (ca (re (I x1)) (ca (show (.ptr 3 0 : SV) = .ptr 3 0 from rfl) (ca (re (I x1)) na)))))

theorem setCell_box {w : World} {b : Nat} {u v : Value} {t : TypeId} (h : w.heap[b]? = some (.cells #[u] t (0, 0))) : (w.setCell ⟨b, 0, none⟩ v).heap[b]? = some (.cells #[v] t (0, 0)) := by
  have hlt := (Array.getElem?_eq_some_iff.1 h).1
  simp [World.setCell, Array.getElem?_modify, h]

theorem ipart_err {n : Nat} {g : Nat → Int} {a b f c : Int} (hsum : SCall Tryz.prog GL 131 [I a, I b, .sl 0 n, I f] [some (.row false 3 n 1 (fun i => [I (g i)]))] (.tup [.agg [I 0, I 0], .ifc 191 (.agg [I c])]) []) :
    SCall Tryz.prog GL 86 [I a, I b, .sl 0 n, I f] [some (.row false 3 n 1 (fun i => [I (g i)]))] (.tup [.agg [I 0, I 0], I c]) [] := by
  refine SCall.of (by kernel_rfl) rfl ⟨fun i => rfl, trivial⟩ rfl (fun X hX => ?_)
  refine icma_Part_1 hX hsum ?_
  intro θ fr ms w hh
  unfold icma_Part_h0 at hh
  obtain ⟨T, rfl, hpre, hrest⟩ := hh.pre
  have hms : ms = [] := by cases hrest θ (Same.refl _ _); rfl
  subst hms
  have h2 : ((opsAt Tryz.f86 [1, 1, 1, 0, 0])[2]?).map (fun o => (o.op, o.guard, o.dst)) = some (.call ⟨.value (.func 74), #[.tmp 21, .tmp 22], #[125, 20]⟩, none, some 23) := by kernel_rfl
  rw [Option.map_eq_some_iff] at h2
  obtain ⟨o, ho, ho'⟩ := h2
  simp only [Prod.mk.injEq] at ho'
  obtain ⟨hop, hgd, hdst⟩ := ho'
  have hpre' := hpre
  rw [hX.P, hX.gl] at hpre'
  obtain ⟨vs, hrun, hvs⟩ := sxOp_after (ds := []) (o := o) (hs := []) (ps := []) (hs' := []) (e := .enter 74 [.ifc 191 (.agg [I c]), .ifc 192 (.ptr 3 0)]) hpre' (by rw [hop]; kernel_rfl) trivial
  obtain ⟨hh0, hT0⟩ := hpre'.inv θ (Same.refl _ _)
  -- the target, and what the package variable holds
  obtain ⟨hA3, hB3⟩ := hh0.vw 3 _ rfl
  obtain ⟨bt, hbt, hbb, c3, el3, hg3, hs3⟩ := hB3 rfl
  obtain ⟨a3, ha3, hl3⟩ := hA3 (by simp)
  rw [hbt] at ha3; cases ha3
  have hc3 : c3.toList = denL θ [I 0] := whole_cells hg3 hs3 hl3
  have hc3' : c3 = #[.int .i64 0] := by
    have : c3 = c3.toList.toArray := by simp
    rw [this, hc3]; rfl
  subst hc3'
  have hgE := (hpre'.gok 2 (.box false [.val (.iface 208 (.agg #[.pointer (some ⟨9, 125, none⟩)]))]) (by unfold GL; simp)).2 θ
  have hE : w.cell? ⟨2, 0, none⟩ = some (.iface 208 (.agg #[.pointer (some ⟨9, 125, none⟩)])) := hgE.1 0 _ rfl
  have hcell : w.cell? ⟨bt, 0, none⟩ = some (.int .i64 0) := by simp [World.cell?, hg3]
  have hfroz : w.frozen? ⟨bt, 0, none⟩ = false := by simp [World.frozen?, hg3]
  have hvs0 := hvs θ (Same.refl _ _)
  have hvs1 : vs.toArray = #[.iface 191 (.agg #[.int .i64 c]), .iface 192 (.pointer (some ⟨bt, 0, none⟩))] := by
    rw [hvs0]
    simp only [denL, den, hbt, Option.map_some, at_, Nat.add_zero]
  rw [hvs1] at hrun
  obtain ⟨e, w', fr', ⟨rfl, hw'⟩, hcomes, -, hleave⟩ := as_hit c ⟨bt, 0, none⟩ (.int .i64 0) w hE hcell hfroz (mkFr {} 86 T [.inRegion (opsAt Tryz.f86 [1, 1, 1, 0, 0]) [2], .code (bodyAt Tryz.f86 [1, 1, 1, 0, 1]), .code (bodyAt Tryz.f86 [1, 1, 1, 1])] :: X.cs)
  have hst := stepM_enter (P := Tryz.prog) (rx := {}) (fn := 86) (T := T) (k := [.code (bodyAt Tryz.f86 [1, 1, 1, 0, 1]), .code (bodyAt Tryz.f86 [1, 1, 1, 1])]) (cs := X.cs) (rest := []) ho (wanted_none hgd) hrun
  have hlv := step_leave_returned (c := mkFr {} 86 T [.inRegion (opsAt Tryz.f86 [1, 1, 1, 0, 0]) [2], .code (bodyAt Tryz.f86 [1, 1, 1, 0, 1]), .code (bodyAt Tryz.f86 [1, 1, 1, 1])]) (cs := X.cs) hleave
  rw [fin_mk ho] at hlv
  -- memory behind it
  generalize hw4 : (((w.alloc (.cells #[.pointer (some ⟨bt, 0, none⟩)] 192)).alloc (.cells #[.pointer (some ⟨9, 192, none⟩), .pointer (some ⟨w.heap.size, 0, none⟩), .int .u64 150] 164)).alloc (.cells #[.pointer (some ⟨9, 192, none⟩), .pointer (some ⟨w.heap.size, 0, none⟩), .int .u64 150] 164)).alloc (.cells #[.int .i64 c] 191) = w4 at hw'
  have hb4 : Go.RowKit.Below w.heap.size w w4 := by
    rw [← hw4]
    exact ((((Go.RowKit.Below.refl _ w).alloc (Nat.le_refl _) _).alloc (by simp) _).alloc (by simp; omega) _).alloc (by simp; omega) _
  have hg4 : w4.heap[bt]? = some (.cells #[.int .i64 0] el3 (0, 0)) := kept hg3 hb4
  have hnew : w'.heap[bt]? = some (.cells #[.int .i64 c] el3 (0, 0)) := by rw [hw']; exact setCell_box hg4
  have hoth : ∀ k, k ≠ bt → w'.heap[k]? = w4.heap[k]? := fun k hk => by
    rw [hw']
    simp [World.setCell, Array.getElem?_modify, Ne.symm hk]
  have hbel : Go.RowKit.Below X.base w w' := by
    have hX1 := hb4.mono hpre.sz
    refine ⟨?_, ?_, ?_, ?_, fun k hk => ?_⟩
    · rw [hw']; exact hX1.os
    · rw [hw']; exact hX1.tape
    · rw [hw']; exact hX1.output
    · rw [hw']; simpa [World.setCell] using hX1.size
    · rw [hoth k (by omega)]; exact hX1.block k hk
  refine Done.steps (fr2 := mkFr {} 86 ((Act.mk T []).put o.dst (.bool true)).tmps (.inRegion (opsAt Tryz.f86 [1, 1, 1, 0, 0]) [] :: [.code (bodyAt Tryz.f86 [1, 1, 1, 0, 1]), .code (bodyAt Tryz.f86 [1, 1, 1, 1])])) (frs2 := []) (w2 := w') (by rw [hX.P]; exact .head hst (Steps.trans hcomes (.one hlv))) ?_
  have hk := icma_Part_2 (X := X) (n3 := n) (g4 := g) (x1 := c) (x2 := 0) (x3 := 0) hX
  unfold icma_Part_b at hk
  refine hk θ _ [] w' ⟨fun θ' hs => ⟨?_, .cons ⟨_, rfl, ?_⟩ .nil⟩, hh.old, hh.len, hh.bel.trans hbel, Nat.le_trans hh.sz hbel.size, hh.gok.below hh.gb hbel, hh.gb⟩
  · have h5 := (hpre'.inv θ' hs).1.below hb4
    have hbt' : (θ' 3).base = some ⟨bt, 0, none⟩ := by rw [hs 3 (by show 3 < 4; omega)]; exact hbt
    exact h5.write (t := 3) (v' := .box true [I c]) rfl rfl rfl hbt' rfl hoth ⟨fun _ => ⟨_, hbt', fun k v hk => by
      cases k with
      | zero => simp at hk; subst hk; simp [World.cell?, at_, hnew, den]
      | succ k => simp at hk⟩, fun _ => ⟨bt, hbt', hbb, _, el3, hnew, rfl⟩⟩
  · have h6 := ((hpre'.inv θ' hs).2).set (v := B true) (r := .bool true) (d := o.dst) (ds := []) rfl
    refine h6.sub ?_
    rw [hdst]
    simp [setT, subT]

/-- The program's answer is the document's. -/
theorem ipart {n : Nat} {g : Nat → Int} {a b f : Int} : SCall Tryz.prog GL 86 [I a, I b, .sl 0 n, I f] [some (.row false 3 n 1 (fun i => [I (g i)]))] (RT (partR a b n g f)) [] := by
  unfold partR
  cases hda : isDay a
  · rw [if_pos (.inl rfl)]
    exact ipart_err (icma_sum_0 (iday a) hda)
  cases hdb : isDay b
  · rw [if_pos (.inr rfl)]
    exact ipart_err (icma_sum_1 (iday a) hda (iday b) hdb)
  rw [if_neg (by simp)]
  by_cases hab : a > b
  · rw [if_pos hab]
    exact ipart_err (icma_sum_2 (iday a) hda (iday b) hdb hab)
  rw [if_neg hab]
  cases hm : mayB n g f
  · rw [if_pos (.inl rfl)]
    exact ipart_err (icma_sum_3 (iday a) hda (iday b) hdb hab imay hm)
  obtain ⟨m1, m2, m3, m4, m5, m6, m7⟩ := may_facts hm
  have e : (((n : Nat) : Int) - 1).toNat = n - 1 := by omega
  by_cases h0 : a < g 0
  · rw [if_pos (.inr (.inl h0))]
    exact ipart_err (icma_sum_4 (iday a) hda (iday b) hdb hab imay hm (by omega) h0)
  by_cases h1 : b > g (n - 1)
  · rw [if_pos (.inr (.inr h1))]
    exact ipart_err (icma_sum_5 (iday a) hda (iday b) hdb hab imay hm (by omega) h0 (by simp only [InR]; omega) (by omega) (by rw [e]; exact h1))
  rw [if_neg (by simp; omega)]
  exact icma_Part_0 (isum hda hdb hab hm h0 h1)


end Go.Proofs.YtehnnaanpmceiaaGreatDoor
