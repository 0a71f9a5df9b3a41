/-
  Proved here: what slot.Right, Want, Go, Hurt, Heal, Fall, Settled answer, of any slots. No condition.
-/
import Derived.Test.YtkjaeodnpgpfeaaPWorkerPlaysx0
import Derived.Test.YtkjaeodnpgpfeaaS0
import Derived.Outline
namespace Go.Proofs.Ytkjaeodnpgpfeaa.S1
open Go.RowKit Go.Proofs.Ytkjaeodnpgpfeaa.S0 Go.Proofs.YtkjaeodnpgpfeaaW.PrintWords Go.Proofs.YtkjaeodnpgpfeaaW.PrintLast Go.Proofs.YtkjaeodnpgpfeaaW.PrintMore
set_option linter.unusedVariables false
attribute [local go_sem] max2_int min2_int max_two min_two max_three min_three max_four min_four

abbrev sval (a b c d : Int) : Value := .agg #[.int .i64 a, .int .i64 b, .int .i64 c, .int .i64 d]

theorem right_no (a b c d : Int) (h : ¬ (0 ≤ a ∧ a ≤ 4 ∧ 0 ≤ b ∧ 0 ≤ c ∧ 0 ≤ d)) : right ⟨a, b, c, d⟩ = false := by
  unfold right; rw [decide_eq_false_iff_not]; exact fun k => h ⟨k.1, k.2.1, k.2.2.1, k.2.2.2.1, k.2.2.2.2.1⟩

set_option maxHeartbeats 400000 in
theorem right_any (a b c d : Int) (w : World) : Calls Try.prog 56 #[sval a b c d] w fun e w' => e = .returned (.bool (right ⟨a, b, c, d⟩)) ∧ w.alloc (.cells #[.int .i64 a, .int .i64 b, .int .i64 c, .int .i64 d] 35) = w' := by
  obtain ⟨x, hx⟩ : ∃ x, (if c < b then c else b) = x := ⟨_, rfl⟩
  obtain ⟨y, hy⟩ : ∃ y, (if d < x then d else x) = y := ⟨_, rfl⟩
  by_cases h1 : 0 ≤ a
  · by_cases h2 : a ≤ 4
    · by_cases h3 : 0 ≤ y
      · have e : right ⟨a, b, c, d⟩ = (decide (0 < b) == (a != 0)) := by
          have hb : 0 ≤ b ∧ 0 ≤ c ∧ 0 ≤ d := by rw [← hx] at hy; rw [← hy] at h3; (repeat' split at h3) <;> omega
          unfold right
          by_cases h4 : 0 < b <;> by_cases h5 : a = 0 <;> simp [h4, h5, h1, h2, hb]
        rw [e]
        clear e
        go_enter Try.func56, Try.ntmps56
        go_wp2
        go_ret
        exact ⟨rfl, rfl⟩
      · have e : right ⟨a, b, c, d⟩ = false := right_no _ _ _ _ (by rw [← hx] at hy; rw [← hy] at h3; (repeat' split at h3) <;> omega)
        rw [e]
        clear e
        go_enter Try.func56, Try.ntmps56
        go_wp2
        go_ret
        exact ⟨rfl, rfl⟩
    · have e : right ⟨a, b, c, d⟩ = false := right_no _ _ _ _ (by omega)
      rw [e]
      clear e
      go_enter Try.func56, Try.ntmps56
      go_wp2
      go_ret
      exact ⟨rfl, rfl⟩
  · have e : right ⟨a, b, c, d⟩ = false := right_no _ _ _ _ (by omega)
    rw [e]
    clear e
    go_enter Try.func56, Try.ntmps56
    go_wp2
    go_ret
    exact ⟨rfl, rfl⟩

end Go.Proofs.Ytkjaeodnpgpfeaa.S1
