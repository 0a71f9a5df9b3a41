/-
  Proved here: what spec.between answers, what a spec's numbers may be. No condition.
-/
import Derived.Test.YtloljhopccpeeaaB0
import Derived.Test.YtloljhopccpeeaaMild
import Derived.Deep.DeepCutAuto
import Derived.Deep.CutBlock
import Derived.Deep.RegionHeld3
namespace Go.Proofs.Ytloljhopccpeeaa.B1
open Go.RowKit Go.Sort Go.Proofs.Ytloljhopccpeeaa.B0 Go.Proofs.Ytloljhopccpeeaa.Mild Go.Proofs.YtloljhopccpeeaaW.PrintWords Go.Proofs.YtloljhopccpeeaaW.PrintLast Go.Proofs.YtloljhopccpeeaaW.PrintMore
set_option linter.unusedVariables false
set_option linter.unusedSimpArgs false
attribute [local go_sem] max2_int min2_int max_two min_two
theorem idx0 (c0 c1 c2 c3 c4 c5 c6 c7 c8 c9 c10 c11 : Value) (w : World) : (Instr.index 70 (.agg #[c0, c1, c2, c3, c4, c5, c6, c7, c8, c9, c10, c11]) (.int .i64 0)).run Try.prog w = .ok c0 w := by rfl
theorem idx1 (c0 c1 c2 c3 c4 c5 c6 c7 c8 c9 c10 c11 : Value) (w : World) : (Instr.index 70 (.agg #[c0, c1, c2, c3, c4, c5, c6, c7, c8, c9, c10, c11]) (.int .i64 1)).run Try.prog w = .ok c1 w := by rfl
theorem idx2 (c0 c1 c2 c3 c4 c5 c6 c7 c8 c9 c10 c11 : Value) (w : World) : (Instr.index 70 (.agg #[c0, c1, c2, c3, c4, c5, c6, c7, c8, c9, c10, c11]) (.int .i64 2)).run Try.prog w = .ok c2 w := by rfl
theorem idx3 (c0 c1 c2 c3 c4 c5 c6 c7 c8 c9 c10 c11 : Value) (w : World) : (Instr.index 70 (.agg #[c0, c1, c2, c3, c4, c5, c6, c7, c8, c9, c10, c11]) (.int .i64 3)).run Try.prog w = .ok c3 w := by rfl
theorem idx4 (c0 c1 c2 c3 c4 c5 c6 c7 c8 c9 c10 c11 : Value) (w : World) : (Instr.index 70 (.agg #[c0, c1, c2, c3, c4, c5, c6, c7, c8, c9, c10, c11]) (.int .i64 4)).run Try.prog w = .ok c4 w := by rfl
theorem idx5 (c0 c1 c2 c3 c4 c5 c6 c7 c8 c9 c10 c11 : Value) (w : World) : (Instr.index 70 (.agg #[c0, c1, c2, c3, c4, c5, c6, c7, c8, c9, c10, c11]) (.int .i64 5)).run Try.prog w = .ok c5 w := by rfl
theorem idx6 (c0 c1 c2 c3 c4 c5 c6 c7 c8 c9 c10 c11 : Value) (w : World) : (Instr.index 70 (.agg #[c0, c1, c2, c3, c4, c5, c6, c7, c8, c9, c10, c11]) (.int .i64 6)).run Try.prog w = .ok c6 w := by rfl
theorem idx7 (c0 c1 c2 c3 c4 c5 c6 c7 c8 c9 c10 c11 : Value) (w : World) : (Instr.index 70 (.agg #[c0, c1, c2, c3, c4, c5, c6, c7, c8, c9, c10, c11]) (.int .i64 7)).run Try.prog w = .ok c7 w := by rfl
theorem idx8 (c0 c1 c2 c3 c4 c5 c6 c7 c8 c9 c10 c11 : Value) (w : World) : (Instr.index 70 (.agg #[c0, c1, c2, c3, c4, c5, c6, c7, c8, c9, c10, c11]) (.int .i64 8)).run Try.prog w = .ok c8 w := by rfl
theorem idx9 (c0 c1 c2 c3 c4 c5 c6 c7 c8 c9 c10 c11 : Value) (w : World) : (Instr.index 70 (.agg #[c0, c1, c2, c3, c4, c5, c6, c7, c8, c9, c10, c11]) (.int .i64 9)).run Try.prog w = .ok c9 w := by rfl
theorem idx10 (c0 c1 c2 c3 c4 c5 c6 c7 c8 c9 c10 c11 : Value) (w : World) : (Instr.index 70 (.agg #[c0, c1, c2, c3, c4, c5, c6, c7, c8, c9, c10, c11]) (.int .i64 10)).run Try.prog w = .ok c10 w := by rfl
theorem idx11 (c0 c1 c2 c3 c4 c5 c6 c7 c8 c9 c10 c11 : Value) (w : World) : (Instr.index 70 (.agg #[c0, c1, c2, c3, c4, c5, c6, c7, c8, c9, c10, c11]) (.int .i64 11)).run Try.prog w = .ok c11 w := by rfl
theorem blk12 {w : World} {g : Nat} {t : TypeId} {c0 c1 c2 c3 c4 c5 c6 c7 c8 c9 c10 c11 : Value} (h : IsBlk w g #[c0, c1, c2, c3, c4, c5, c6, c7, c8, c9, c10, c11] t) (e0 e1 e2 e3 e4 e5 e6 e7 e8 e9 e10 e11 : Value) : IsBlk ((((((((((((w.setCell ⟨g, 0, none⟩ e0).setCell ⟨g, 1, none⟩ e1).setCell ⟨g, 2, none⟩ e2).setCell ⟨g, 3, none⟩ e3).setCell ⟨g, 4, none⟩ e4).setCell ⟨g, 5, none⟩ e5).setCell ⟨g, 6, none⟩ e6).setCell ⟨g, 7, none⟩ e7).setCell ⟨g, 8, none⟩ e8).setCell ⟨g, 9, none⟩ e9).setCell ⟨g, 10, none⟩ e10).setCell ⟨g, 11, none⟩ e11) g #[e0, e1, e2, e3, e4, e5, e6, e7, e8, e9, e10, e11] t := by
  unfold IsBlk at *
  refine blk_put (cs := #[e0, e1, e2, e3, e4, e5, e6, e7, e8, e9, e10, c11]) ?_ 11 _ rfl
  refine blk_put (cs := #[e0, e1, e2, e3, e4, e5, e6, e7, e8, e9, c10, c11]) ?_ 10 _ rfl
  refine blk_put (cs := #[e0, e1, e2, e3, e4, e5, e6, e7, e8, c9, c10, c11]) ?_ 9 _ rfl
  refine blk_put (cs := #[e0, e1, e2, e3, e4, e5, e6, e7, c8, c9, c10, c11]) ?_ 8 _ rfl
  refine blk_put (cs := #[e0, e1, e2, e3, e4, e5, e6, c7, c8, c9, c10, c11]) ?_ 7 _ rfl
  refine blk_put (cs := #[e0, e1, e2, e3, e4, e5, c6, c7, c8, c9, c10, c11]) ?_ 6 _ rfl
  refine blk_put (cs := #[e0, e1, e2, e3, e4, c5, c6, c7, c8, c9, c10, c11]) ?_ 5 _ rfl
  refine blk_put (cs := #[e0, e1, e2, e3, c4, c5, c6, c7, c8, c9, c10, c11]) ?_ 4 _ rfl
  refine blk_put (cs := #[e0, e1, e2, c3, c4, c5, c6, c7, c8, c9, c10, c11]) ?_ 3 _ rfl
  refine blk_put (cs := #[e0, e1, c2, c3, c4, c5, c6, c7, c8, c9, c10, c11]) ?_ 2 _ rfl
  refine blk_put (cs := #[e0, c1, c2, c3, c4, c5, c6, c7, c8, c9, c10, c11]) ?_ 1 _ rfl
  refine blk_put (cs := #[c0, c1, c2, c3, c4, c5, c6, c7, c8, c9, c10, c11]) ?_ 0 _ rfl
  exact h
def betw (n a b : Int) : Bool := decide (a ≤ n ∧ n ≤ b)
theorem betw_q (n a b : Int) (w : World) : Calls Try.prog 41 #[.int .i64 n, .int .i64 a, .int .i64 b] w fun e w' => e = .returned (.bool (betw n a b)) ∧ Below w.heap.size w w' := by
  refine (PPlanEnds.spec_between.calls n a b _ w ?_).mono fun e w' hh => ⟨hh.1, hh.2.below⟩
  unfold PPlanEnds.spec_between.f betw
  split <;> simp <;> omega
theorem betw_o (n a b : Int) (w : World) : Calls Try.prog 41 #[.int .i64 n, .int .i64 a, .int .i64 b] w fun e w' => e = .returned (.bool (betw n a b)) ∧ Over w w' := betw_q n a b w
theorem step0_o (v d s u st s0 s1 s2 s3 p q r : Int) (w : World) : Calls Try.prog 42 #[.agg #[.int .i64 v, .int .i64 d, .int .i64 s, .int .i64 u, .int .i64 st, .int .i64 s0, .int .i64 s1, .int .i64 s2, .int .i64 s3, .int .i64 p, .int .i64 q, .int .i64 r], .int .i64 0] w fun e w' => e = .returned (.bool (stepB st s0 0 false)) ∧ Over w w' := step0 v d s u st s0 s1 s2 s3 p q r w
theorem step1_o (v d s u st s0 s1 s2 s3 p q r : Int) (w : World) : Calls Try.prog 42 #[.agg #[.int .i64 v, .int .i64 d, .int .i64 s, .int .i64 u, .int .i64 st, .int .i64 s0, .int .i64 s1, .int .i64 s2, .int .i64 s3, .int .i64 p, .int .i64 q, .int .i64 r], .int .i64 1] w fun e w' => e = .returned (.bool (stepB st s1 s0 true)) ∧ Over w w' := step1 v d s u st s0 s1 s2 s3 p q r w
theorem step2_o (v d s u st s0 s1 s2 s3 p q r : Int) (w : World) : Calls Try.prog 42 #[.agg #[.int .i64 v, .int .i64 d, .int .i64 s, .int .i64 u, .int .i64 st, .int .i64 s0, .int .i64 s1, .int .i64 s2, .int .i64 s3, .int .i64 p, .int .i64 q, .int .i64 r], .int .i64 2] w fun e w' => e = .returned (.bool (stepB st s2 s1 true)) ∧ Over w w' := step2 v d s u st s0 s1 s2 s3 p q r w
theorem step3_o (v d s u st s0 s1 s2 s3 p q r : Int) (w : World) : Calls Try.prog 42 #[.agg #[.int .i64 v, .int .i64 d, .int .i64 s, .int .i64 u, .int .i64 st, .int .i64 s0, .int .i64 s1, .int .i64 s2, .int .i64 s3, .int .i64 p, .int .i64 q, .int .i64 r], .int .i64 3] w fun e w' => e = .returned (.bool (stepB st s3 s2 true)) ∧ Over w w' := step3 v d s u st s0 s1 s2 s3 p q r w
end Go.Proofs.Ytloljhopccpeeaa.B1
