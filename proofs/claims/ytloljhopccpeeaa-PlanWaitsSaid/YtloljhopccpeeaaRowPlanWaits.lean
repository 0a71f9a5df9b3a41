/-
  Proved here: the statement PlanWaitsSaid: whatever the input, PlanWaits returns true and leaves its arguments as they were. No condition.
-/
import Derived.Test.YtloljhopccpeeaaRows
import Derived.Test.YtloljhopccpeeaaWalkPlanWaits
import Derived.WalkKit
import Derived.ProofKit
import Derived.OpenShut
import Derived.ShutString
import Derived.ChangeOld
import Derived.Below
import Derived.Lib.SmallJoins
import Derived.Laws.IdiomArrays
import Derived.Test.YtloljhopccpeeaaO
namespace Go.Proofs.Ytloljhopccpeeaa.planWaits
open Go.ChangeShapes Go.WideShapes Go.ChangeAt Go.RowKit
set_option linter.unusedVariables false
theorem own : ownKnob Try.prog.godebug = none := by kernel_rfl
theorem laidOut : laidOutB Try.prog = true := by kernel_rfl

set_option maxRecDepth 100000 in
theorem lifted (os : Os) (started : os.Started) (H : Type) (enc : TypeId × Value → H) :
    ReturnsInHanded {} Try.checked os 6 .any (Rows.planWaitsSpec.pre6 enc Try.prog Try.f6 Rows.planWaitsRow.domain false) (Rows.planWaitsSpec.post enc Try.prog Try.f6 false true false false) := by
  refine returnsInHanded_of_change (C := Try.checked) own started (by kernel_rfl) Try.func6
    (ChangeSpec.witness6 (enc := enc) (C := Try.checked) false ⟨#[], #[.agg #[.int .i64 0, .int .i64 0, .int .i64 0, .int .i64 0, .int .i64 0, .int .i64 0, .int .i64 0, .int .i64 0, .int .i64 0, .int .i64 0, .int .i64 0, .int .i64 0], .slice none 0 0, .slice none 0 0], []⟩ 8 (by kernel_rfl) (by kernel_rfl) (by kernel_rfl) (by kernel_rfl)) ?_
  intro W base args ds gs before hval0 hW hcnd _
  have hval : ∀ (j : Nat) t v, Try.f6.params[j]? = some t → args[j]? = some v → Value.okWide Try.prog W .any base t v := hval0
  have hW' := hW
  obtain ⟨p, q, hA0, hV, rfl, hfz, hnd⟩ := hW
  have hA : DataW.TrodAll enc Try.prog W 0 (fun _ => true) true Try.f6.params.toList args.toList ds p := hA0
  rw [Try.params6] at hA hval
  obtain ⟨v0, vs0, d0, ds0, p0, q0, hargs, rfl, rfl, h0, r0⟩ := trodAll_cons hA
  obtain ⟨v1, vs1, d1, ds1, p1, q1, rfl, rfl, rfl, h1, r1⟩ := trodAll_cons r0
  obtain ⟨v2, vs2, d2, ds2, p2, q2, rfl, rfl, rfl, h2, r2⟩ := trodAll_cons r1
  obtain ⟨rfl, rfl, rfl⟩ := trodAll_nil r2
  obtain rfl : args = #[v0, v1, v2] := by cases args; simp_all
  obtain ⟨rfl, rfl⟩ := trodVars_none hV
  have k0 := h0
  have lt0 : ∀ x ∈ p0, x.block < W.heap.size := by obtain ⟨m, hm⟩ := k0; exact DataW.trod_lt m _ _ _ hm
  obtain ⟨a0_0, a0_1, a0_2, a0_3, a0_4, a0_5, a0_6, a0_7, a0_8, a0_9, a0_10, a0_11, rfl⟩ : ∃ (a0_0 : Int) (a0_1 : Int) (a0_2 : Int) (a0_3 : Int) (a0_4 : Int) (a0_5 : Int) (a0_6 : Int) (a0_7 : Int) (a0_8 : Int) (a0_9 : Int) (a0_10 : Int) (a0_11 : Int), v0 = .agg #[.int .i64 a0_0, .int .i64 a0_1, .int .i64 a0_2, .int .i64 a0_3, .int .i64 a0_4, .int .i64 a0_5, .int .i64 a0_6, .int .i64 a0_7, .int .i64 a0_8, .int .i64 a0_9, .int .i64 a0_10, .int .i64 a0_11] := by
    have hok := hval 0 24 v0 rfl rfl
    obtain ⟨cs, rfl, hsz⟩ : ∃ cs, v0 = .agg cs ∧ cs.size = Try.prog.cellsOf 24 := by
      simp only [Value.okWide, Try.underlying24] at hok
      obtain ⟨cs, h1, h2, _⟩ := hok
      exact ⟨cs, h1, h2⟩
    obtain ⟨fuel, hf⟩ := h0
    obtain ⟨y0, y1, y2, y3, y4, y5, y6, y7, y8, y9, y10, y11, e_, _⟩ := O.rd24 hf
    exact ⟨y0, y1, y2, y3, y4, y5, y6, y7, y8, y9, y10, y11, by cases cs; simp_all [Value.cells]⟩
  have k1 := h1
  have lt1 : ∀ x ∈ p1, x.block < W.heap.size := by obtain ⟨m, hm⟩ := k1; exact DataW.trod_lt m _ _ _ hm
  obtain ⟨A1, n1, c1, rfl⟩ := okWide_slice Try.underlying26 (hval 1 26 v1 rfl rfl)
  obtain ⟨l1, hl1, hc1, hr1⟩ : ∃ l, n1 = List.length l ∧ l.length ≤ c1 ∧ O.Rowz O.Is35 3 W A1 l := by
    obtain ⟨fuel, hf⟩ := h1
    obtain ⟨A, c, l, hcs, hle, hrow⟩ := O.sl26 hf
    simp [Value.cells] at hcs
    obtain ⟨rfl, hn, rfl⟩ := hcs
    exact ⟨l, hn, hle, hrow⟩
  subst hl1
  have k2 := h2
  have lt2 : ∀ x ∈ p2, x.block < W.heap.size := by obtain ⟨m, hm⟩ := k2; exact DataW.trod_lt m _ _ _ hm
  obtain ⟨A2, n2, c2, rfl⟩ := okWide_slice Try.underlying43 (hval 2 43 v2 rfl rfl)
  obtain ⟨l2, hl2, hc2, hr2⟩ : ∃ l, n2 = List.length l ∧ l.length ≤ c2 ∧ O.Rowz O.Is3 1 W A2 l := by
    obtain ⟨fuel, hf⟩ := h2
    obtain ⟨A, c, l, hcs, hle, hrow⟩ := O.sl43 hf
    simp [Value.cells] at hcs
    obtain ⟨rfl, hn, rfl⟩ := hcs
    exact ⟨l, hn, hle, hrow⟩
  subst hl2
  clear hA0 hval0
  refine (WalkPlanWaits.walk a0_0 a0_1 a0_2 a0_3 a0_4 a0_5 a0_6 a0_7 a0_8 a0_9 a0_10 a0_11 A1 c1 l1 A2 c2 l2 W hr1 hc1 hr2 hc2).mono fun e W' ⟨he, bel⟩ => ?_
  subst he
  exact ⟨_, rfl, _, _, _, [], _, [], hW', trodAll_mk1 (shut_bool Try.underlying4 _), (trodAll_cons_mk (Below.trod laidOut (by kernel_rfl) (of_decide_eq_true (by kernel_rfl)) k0 bel lt0) (trodAll_cons_mk (Below.trod laidOut (by kernel_rfl) (of_decide_eq_true (by kernel_rfl)) k1 bel lt1) (trodAll_cons_mk (Below.trod laidOut (by kernel_rfl) (of_decide_eq_true (by kernel_rfl)) k2 bel lt2) trodAll_mk0))), rfl, bel.frame _, fun h => by cases h⟩
theorem over : Rows.planWaitsRow.holds Try.pinned (OpenSpec.ofChange Rows.planWaitsSpec) :=
  OpenClaim.holds_of_wide 6 Try.f6 rfl rfl rfl rfl rfl rfl rfl ⟨rfl, rfl, rfl, rfl, rfl⟩ rfl rfl rfl rfl rfl (by kernel_rfl) Try.func6 (by kernel_rfl)
    (of_decide_eq_true (by kernel_rfl)) (by unfold Func.isWrapper; first | (rw [if_pos (by decide +kernel)]; kernel_rfl) | (rw [if_neg (by decide +kernel)]; exact ⟨rfl, rfl⟩))
    (fun os started H enc _ => lifted os started H enc)
theorem proved : Rows.PlanWaitsSaid := over
#print axioms proved
end Go.Proofs.Ytloljhopccpeeaa.planWaits
namespace Go.Proofs.Ytloljhopccpeeaa
theorem planWaits_holds : Rows.PlanWaitsSaid := planWaits.proved
end Go.Proofs.Ytloljhopccpeeaa
