/-
  Proved here: the statement SlotWalksSaid: whatever the input, SlotWalks returns true and leaves its arguments as they were. No condition.
-/
import Derived.Test.YtiegioncmpkpcaaRows
import Derived.Test.YtiegioncmpkpcaaWalkSlotWalks
import Derived.WalkKit
import Derived.ProofKit
import Derived.OpenShut
import Derived.ShutString
import Derived.ChangeOld
import Derived.Below
import Derived.Lib.SmallJoins
import Derived.Laws.IdiomArrays
import Derived.Test.YtiegioncmpkpcaaO
namespace Go.Proofs.Ytiegioncmpkpcaa.slotWalks
open Go.ChangeShapes Go.WideShapes Go.ChangeAt Go.RowKit
set_option linter.unusedVariables false
theorem own : ownKnob Try.prog.godebug = none := by kernel_rfl
theorem laidOut : laidOutB Try.prog = true := by kernel_rfl
theorem cells23_ : Try.prog.cellsOf 23 = 4 := by kernel_rfl
set_option maxRecDepth 100000 in
theorem lifted (os : Os) (started : os.Started) (H : Type) (enc : TypeId × Value → H) :
    ReturnsInHanded {} Try.checked os 5 .any (Rows.slotWalksSpec.pre6 enc Try.prog Try.f5 Rows.slotWalksRow.domain false) (Rows.slotWalksSpec.post enc Try.prog Try.f5 false true false false) := by
  refine returnsInHanded_of_change (C := Try.checked) own started (by kernel_rfl) Try.func5
    (ChangeSpec.witness6 (enc := enc) (C := Try.checked) false ⟨#[], #[.agg #[.int .i64 0, .int .i64 0, .int .i64 0, .int .i64 0], .slice none 0 0, .slice none 0 0], []⟩ 8 (by kernel_rfl) (by kernel_rfl) (by kernel_rfl) (by kernel_rfl)) ?_
  intro W base args ds gs before hval0 hW hcnd _
  have hval : ∀ (j : Nat) t v, Try.f5.params[j]? = some t → args[j]? = some v → Value.okWide Try.prog W .any base t v := hval0
  have hW' := hW
  obtain ⟨p, q, hA0, hV, rfl, hfz, hnd⟩ := hW
  have hA : DataW.TrodAll enc Try.prog W 0 (fun _ => true) true Try.f5.params.toList args.toList ds p := hA0
  rw [Try.params5] at hA hval
  obtain ⟨v0, vs0, d0, ds0, p0, q0, hargs, rfl, rfl, h0, r0⟩ := trodAll_cons hA
  obtain ⟨v1, vs1, d1, ds1, p1, q1, rfl, rfl, rfl, h1, r1⟩ := trodAll_cons r0
  obtain ⟨v2, vs2, d2, ds2, p2, q2, rfl, rfl, rfl, h2, r2⟩ := trodAll_cons r1
  obtain ⟨rfl, rfl, rfl⟩ := trodAll_nil r2
  obtain rfl : args = #[v0, v1, v2] := by cases args; simp_all
  obtain ⟨rfl, rfl⟩ := trodVars_none hV
  have k0 := h0
  have lt0 : ∀ x ∈ p0, x.block < W.heap.size := by obtain ⟨m, hm⟩ := k0; exact DataW.trod_lt m _ _ _ hm
  obtain ⟨a0_0, a0_1, a0_2, a0_3, rfl⟩ : ∃ x y z u : Int, v0 = .agg #[.int .i64 x, .int .i64 y, .int .i64 z, .int .i64 u] := by
    obtain ⟨c0, c1, c2, c3, y0, y1, y2, y3, m, rfl, _, _, g0, g1, g2, g3⟩ := Joins.open_agg4 Try.underlying23 (by kernel_rfl) cells23_ (hval 0 23 v0 rfl rfl) h0
    obtain ⟨x0, e0, _, _⟩ := DataW.trod_int Try.underlying3 g0
    obtain ⟨x1, e1, _, _⟩ := DataW.trod_int Try.underlying3 g1
    obtain ⟨x2, e2, _, _⟩ := DataW.trod_int Try.underlying3 g2
    obtain ⟨x3, e3, _, _⟩ := DataW.trod_int Try.underlying3 g3
    simp at e0 e1 e2 e3
    subst e0 e1 e2 e3
    exact ⟨_, _, _, _, rfl⟩
  have k1 := h1
  have lt1 : ∀ x ∈ p1, x.block < W.heap.size := by obtain ⟨m, hm⟩ := k1; exact DataW.trod_lt m _ _ _ hm
  obtain ⟨A1, n1, c1, rfl⟩ := okWide_slice Try.underlying33 (hval 1 33 v1 rfl rfl)
  obtain ⟨l1, hl1, hc1, hr1⟩ : ∃ l, n1 = List.length l ∧ l.length ≤ c1 ∧ O.Rowz O.Is3 1 W A1 l := by
    obtain ⟨fuel, hf⟩ := h1
    obtain ⟨A, c, l, hcs, hle, hrow⟩ := O.sl33 hf
    simp [Value.cells] at hcs
    obtain ⟨rfl, hn, rfl⟩ := hcs
    exact ⟨l, hn, hle, hrow⟩
  subst hl1
  have k2 := h2
  have lt2 : ∀ x ∈ p2, x.block < W.heap.size := by obtain ⟨m, hm⟩ := k2; exact DataW.trod_lt m _ _ _ hm
  obtain ⟨A2, n2, c2, rfl⟩ := okWide_slice Try.underlying34 (hval 2 34 v2 rfl rfl)
  obtain ⟨l2, hl2, hc2, hr2⟩ : ∃ l, n2 = List.length l ∧ l.length ≤ c2 ∧ O.Rowz O.Is35 2 W A2 l := by
    obtain ⟨fuel, hf⟩ := h2
    obtain ⟨A, c, l, hcs, hle, hrow⟩ := O.sl34 hf
    simp [Value.cells] at hcs
    obtain ⟨rfl, hn, rfl⟩ := hcs
    exact ⟨l, hn, hle, hrow⟩
  subst hl2
  clear hA0 hval0
  refine (WalkSlotWalks.walk a0_0 a0_1 a0_2 a0_3 A1 c1 l1 A2 c2 l2 W hr1 hc1 hr2 hc2).mono fun e W' ⟨he, bel⟩ => ?_
  subst he
  exact ⟨_, rfl, _, _, _, [], _, [], hW', trodAll_mk1 (shut_bool Try.underlying4 _), (trodAll_cons_mk (Below.trod laidOut (by kernel_rfl) (of_decide_eq_true (by kernel_rfl)) k0 bel lt0) (trodAll_cons_mk (Below.trod laidOut (by kernel_rfl) (of_decide_eq_true (by kernel_rfl)) k1 bel lt1) (trodAll_cons_mk (Below.trod laidOut (by kernel_rfl) (of_decide_eq_true (by kernel_rfl)) k2 bel lt2) trodAll_mk0))), rfl, bel.frame _, fun h => by cases h⟩
theorem over : Rows.slotWalksRow.holds Try.pinned (OpenSpec.ofChange Rows.slotWalksSpec) :=
  OpenClaim.holds_of_wide 5 Try.f5 rfl rfl rfl rfl rfl rfl rfl ⟨rfl, rfl, rfl, rfl, rfl⟩ rfl rfl rfl rfl rfl (by kernel_rfl) Try.func5 (by kernel_rfl)
    (of_decide_eq_true (by kernel_rfl)) (by unfold Func.isWrapper; first | (rw [if_pos (by decide +kernel)]; kernel_rfl) | (rw [if_neg (by decide +kernel)]; exact ⟨rfl, rfl⟩))
    (fun os started H enc _ => lifted os started H enc)
theorem proved : Rows.SlotWalksSaid := over
#print axioms proved
end Go.Proofs.Ytiegioncmpkpcaa.slotWalks
namespace Go.Proofs.Ytiegioncmpkpcaa
theorem slotWalks_holds : Rows.SlotWalksSaid := slotWalks.proved
end Go.Proofs.Ytiegioncmpkpcaa
