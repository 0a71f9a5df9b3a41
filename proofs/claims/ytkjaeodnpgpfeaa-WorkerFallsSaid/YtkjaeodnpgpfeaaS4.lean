/-
  Proved here: what slot.Want, Go, Hurt, Heal, Fall, Settled and the reference's Good answer, of any slots: each in one contract. No condition.
-/
import Derived.Test.YtkjaeodnpgpfeaaS3
namespace Go.Proofs.Ytkjaeodnpgpfeaa.S4
open Go.RowKit Go.Proofs.Ytkjaeodnpgpfeaa.S0 Go.Proofs.Ytkjaeodnpgpfeaa.S1 Go.Proofs.Ytkjaeodnpgpfeaa.S2 Go.Proofs.Ytkjaeodnpgpfeaa.S3 Go.Proofs.YtkjaeodnpgpfeaaW.PrintWords Go.Proofs.YtkjaeodnpgpfeaaW.PrintLast Go.Proofs.YtkjaeodnpgpfeaaW.PrintMore
set_option linter.unusedVariables false

/-- A slot's value. -/
def sv (s : Sl) : Value := .agg #[.int .i64 s.st, .int .i64 s.ver, .int .i64 s.want, .int .i64 s.seq]

theorem want_any (s : Sl) (v q : Int) (w : World) : Calls Try.prog 26 #[sv s, .int .i64 v, .int .i64 q] w fun e w' => e = .returned (.tuple #[sv (wants s v q).1, .bool (wants s v q).2]) ∧ Below w.heap.size w w' := by
  obtain ⟨a, b, c, d⟩ := s
  unfold wants sv
  cases h : right ⟨a, b, c, d⟩ with
  | false => simpa using want_not a b c d v q w h
  | true =>
    by_cases h1 : v < 0
    · rw [if_neg (by simp; omega)]
      exact want_low a b c d v q w h (decide_eq_true h1)
    · by_cases h2 : q ≤ d
      · rw [if_neg (by simp; omega)]
        exact want_old a b c d v q w h (decide_eq_false h1) (decide_eq_true h2)
      · rw [if_pos ⟨rfl, by omega, by simp; omega⟩]
        by_cases h3 : a = 0
        · rw [if_neg (by simp [h3])]
          exact want_off a b c d v q w h (decide_eq_false h1) (decide_eq_false h2) (by simp [h3])
        · by_cases h4 : b = v
          · rw [if_neg (by simp [h4])]
            exact want_same a b c d v q w h (decide_eq_false h1) (decide_eq_false h2) (by simp [h3]) (by simp [h4])
          · rw [if_pos ⟨h3, h4⟩]
            exact want_other a b c d v q w h (decide_eq_false h1) (decide_eq_false h2) (by simp [h3]) (by simp [h4])

theorem go_any (s : Sl) (w : World) : Calls Try.prog 36 #[sv s] w fun e w' => e = .returned (.tuple #[sv (goes s).1, .bool (goes s).2]) ∧ Below w.heap.size w w' := by
  obtain ⟨a, b, c, d⟩ := s
  unfold goes sv
  cases h : right ⟨a, b, c, d⟩ with
  | false => simpa using go_not a b c d w h
  | true =>
    rw [if_pos rfl]
    by_cases h1 : a = 0
    · rw [if_pos h1]
      by_cases h2 : 0 < c
      · rw [if_pos h2]
        exact go_start a b c d w h (by simp [h1]) (decide_eq_true h2)
      · rw [if_neg h2]
        exact go_idle a b c d w h (by simp [h1]) (decide_eq_false h2) (by simp [h1]) (by simp [h1])
    · rw [if_neg h1]
      by_cases h3 : a = 1
      · rw [if_pos h3]
        exact go_ready a b c d w h (by simp [h1]) (by simp [h3])
      · rw [if_neg h3]
        by_cases h4 : a = 4
        · rw [if_pos h4]
          exact go_stop a b c d w h (by simp [h1]) (by simp [h3]) (by simp [h4]) (by simp [h1])
        · rw [if_neg h4]
          exact go_none a b c d w h (by simp [h1]) (by simp [h3]) (by simp [h4])

theorem hurt_any (s : Sl) (w : World) : Calls Try.prog 41 #[sv s] w fun e w' => e = .returned (.tuple #[sv (turns s 2 3).1, .bool (turns s 2 3).2]) ∧ Below w.heap.size w w' := by
  obtain ⟨a, b, c, d⟩ := s
  unfold turns sv
  cases h : right ⟨a, b, c, d⟩ with
  | false => simpa using hurt_not a b c d w h
  | true =>
    by_cases h1 : a = 2
    · rw [if_pos ⟨rfl, h1⟩]
      exact hurt_yes a b c d w h (by simp [h1])
    · rw [if_neg (by simp [h1])]
      exact hurt_no a b c d w h (by simp [h1])

theorem heal_any (s : Sl) (w : World) : Calls Try.prog 42 #[sv s] w fun e w' => e = .returned (.tuple #[sv (turns s 3 2).1, .bool (turns s 3 2).2]) ∧ Below w.heap.size w w' := by
  obtain ⟨a, b, c, d⟩ := s
  unfold turns sv
  cases h : right ⟨a, b, c, d⟩ with
  | false => simpa using heal_not a b c d w h
  | true =>
    by_cases h1 : a = 3
    · rw [if_pos ⟨rfl, h1⟩]
      exact heal_yes a b c d w h (by simp [h1])
    · rw [if_neg (by simp [h1])]
      exact heal_no a b c d w h (by simp [h1])

theorem fall_any (s : Sl) (w : World) : Calls Try.prog 35 #[sv s] w fun e w' => e = .returned (.tuple #[sv (falls s).1, .bool (falls s).2]) ∧ Below w.heap.size w w' := by
  obtain ⟨a, b, c, d⟩ := s
  unfold falls sv
  cases h : right ⟨a, b, c, d⟩ with
  | false => simpa using fall_not a b c d w h
  | true =>
    rw [if_pos rfl]
    have e : decide (a ≠ 0) = (a != 0) := by by_cases h0 : a = 0 <;> simp [h0]
    have := fall_yes a b c d w h
    rw [← e] at this
    exact this

/-- What is made of any number, from 0 on, so many at most. -/
def near (n : Int) (k : Int) : Int := (n % 18446744073709551616) % k
theorem near_bounds (n k : Int) (hk : 0 < k) : 0 ≤ near n k ∧ near n k < k := ⟨Int.emod_nonneg _ (by omega), Int.emod_lt_of_pos _ hk⟩
def good (s : Sl) : Sl := ⟨near s.st 5, if near s.st 5 = 0 then 0 else 1 + near s.ver 3, near s.want 4, near s.seq 9⟩

theorem good_right (s : Sl) : right (good s) = true := by
  have h1 := near_bounds s.st 5 (by omega)
  have h2 := near_bounds s.ver 3 (by omega)
  have h3 := near_bounds s.want 4 (by omega)
  have h4 := near_bounds s.seq 9 (by omega)
  unfold right good
  simp only [decide_eq_true_eq]
  split <;> omega
theorem u64_wrap (n : Int) : IntKind.u64.wrap n = n % 18446744073709551616 := by
  have h : IntKind.u64.wrap n = n.emod 18446744073709551616 := by simp [IntKind.wrap]; rfl
  exact h
theorem raw_near (n k : Int) (hk : 0 < k) (hk' : k ≤ 100) : wrap64 ((IntKind.u64.wrap n).tmod k) = near n k := by
  have hb := near_bounds n k hk
  rw [u64_wrap, Int.tmod_eq_emod_of_nonneg (Int.emod_nonneg _ (by decide))]
  unfold near at hb ⊢
  unfold wrap64
  omega
end Go.Proofs.Ytkjaeodnpgpfeaa.S4
