/-
  Proved here: the targets of what Good makes: they rise, and end with what is desired. No condition.
-/
import Derived.Test.YtloljhopccpeeaaB2
import Derived.Test.YtloljhopccpeeaaB3
namespace Go.Proofs.Ytloljhopccpeeaa.B5
open Go.RowKit Go.Proofs.Ytloljhopccpeeaa.B0 Go.Proofs.Ytloljhopccpeeaa.B1 Go.Proofs.Ytloljhopccpeeaa.B1z Go.Proofs.Ytloljhopccpeeaa.B2 Go.Proofs.Ytloljhopccpeeaa.B3 Go.Proofs.YtloljhopccpeeaaW.PrintWords Go.Proofs.YtloljhopccpeeaaW.PrintLast Go.Proofs.YtloljhopccpeeaaW.PrintMore
set_option linter.unusedVariables false
set_option linter.unusedSimpArgs false

theorem made_ok {v d s u st s0 s1 s2 s3 p q r : Int} (h : Made v d s u st s0 s1 s2 s3 p q r) : okB v d s u st s0 s1 s2 s3 p q r = true := by
  obtain ⟨hv, hd, hst, hs, hs2, hu, hsu, hno, hyes, hp, hq, hr⟩ := h
  have e16 : wrap64 (16 - d) = 16 - d := wrap64_eq (by omega) (by omega)
  have b0 : betw v 1 1048576 = true := by unfold betw; simp; omega
  have b1 : betw d 1 16 = true := by unfold betw; simp; omega
  have b2 : betw s 0 (wrap64 (16 - d)) = true := by rw [e16]; unfold betw; simp; omega
  have b3 : betw u 0 d = true := by unfold betw; simp; omega
  have b4 : betw st 0 2 = true := by unfold betw; simp; omega
  have b9 : betw p 1 1048576 = true := by unfold betw; simp; omega
  have b10 : betw q 0 1048576 = true := by unfold betw; simp; omega
  have b11 : betw r 1 1048576 = true := by unfold betw; simp; omega
  have c3 : (decide (0 < u) || decide (0 < s)) = true := by simp; omega
  have c4 : (st != 2 || decide (d ≤ s)) = true := by
    by_cases h2 : st = 2
    · have := hs2 h2
      simp; omega
    · simp [h2]
  have cs : stepB st s0 0 false = true ∧ stepB st s1 s0 true = true ∧ stepB st s2 s1 true = true ∧ stepB st s3 s2 true = true := by
    by_cases h0 : st = 0
    · obtain ⟨k, last, hk, hS⟩ := hyes h0
      unfold Stp at hS
      unfold stepB
      subst h0
      refine ⟨?_, ?_, ?_, ?_⟩ <;> ((repeat' split) <;> simp_all <;> omega)
    · obtain ⟨rfl, rfl, rfl, rfl⟩ := hno h0
      unfold stepB
      simp [h0]
  obtain ⟨c5, c6, c7, c8⟩ := cs
  unfold okB okL
  simp only [b0, b1, b2, b3, b4, b9, b10, b11, c3, c4, c5, c6, c7, c8, List.all_cons, List.all_nil, Bool.and_self]

theorem pct_in {n d : Int} (hn : 1 ≤ n ∧ n ≤ 100) (hd : 1 ≤ d ∧ d ≤ 5) : pct n d = (n * d + 99) / 100 := by
  have hnd : 0 ≤ n * d ∧ n * d ≤ 500 := by
    rcases (by omega : d = 1 ∨ d = 2 ∨ d = 3 ∨ d = 4 ∨ d = 5) with rfl | rfl | rfl | rfl | rfl <;> omega
  have e1 : mn (mx n 0) 100 = n := by unfold mn mx; (repeat' split) <;> omega
  have e2 : mn (mx d 0) 1048576 = d := by unfold mn mx; (repeat' split) <;> omega
  unfold pct
  rw [e1, e2, wrap64_eq (n := n * d) (by omega) (by omega), wrap64_eq (n := n * d + 99) (by omega) (by omega), Int.tdiv_eq_ediv_of_nonneg (by omega)]
  exact wrap64_eq (by omega) (by omega)

/-- What the law asks of the targets. -/
def Rises (s0 s1 s2 s3 d : Int) (l : List Int) : Prop :=
  ∃ m : Nat, l.length = m + 1 ∧ m ≤ 4 ∧ l.getD m 0 = d ∧ ∀ k, k ≤ m → 1 ≤ l.getD k 0 ∧ l.getD k 0 ≤ d ∧ (0 < k → l.getD (k - 1) 0 ≤ l.getD k 0) ∧
    (k < m → [s0, s1, s2, s3].getD k 0 * d ≤ 100 * l.getD k 0 ∧ 100 * (l.getD k 0 - 1) < [s0, s1, s2, s3].getD k 0 * d)
theorem rises {v d s u st s0 s1 s2 s3 p q r : Int} (h : Made v d s u st s0 s1 s2 s3 p q r) : Rises s0 s1 s2 s3 d (targetsL v d s u st s0 s1 s2 s3 p q r) := by
  have ht : targetsL v d s u st s0 s1 s2 s3 p q r = (stepsL s0 s1 s2 s3).map (fun n => pct n d) ++ [d] := by unfold targetsL; rw [made_ok h]; rfl
  rw [ht]
  have hd := h.m_d
  by_cases h0 : st = 0
  · obtain ⟨k, last, hk, hS⟩ := h.m_yes h0
    unfold Stp at hS
    rcases hS with hS | hS | hS | hS | hS
    · omega
    · have e : stepsL s0 s1 s2 s3 = [s0] := by unfold stepsL; simp [List.takeWhile_cons, hS, show s0 ≠ 0 by omega]
      rw [e]
      refine ⟨1, rfl, by omega, rfl, fun k hk => ?_⟩
      have p0 := pct_in (n := s0) (by omega) hd
      rcases (by omega : k = 0 ∨ k = 1) with rfl | rfl <;> simp [p0] <;> (rcases (by omega : d = 1 ∨ d = 2 ∨ d = 3 ∨ d = 4 ∨ d = 5) with rfl | rfl | rfl | rfl | rfl <;> omega)
    · have e : stepsL s0 s1 s2 s3 = [s0, s1] := by unfold stepsL; simp [List.takeWhile_cons, hS, show s0 ≠ 0 by omega, show s1 ≠ 0 by omega]
      rw [e]
      refine ⟨2, rfl, by omega, rfl, fun k hk => ?_⟩
      have p0 := pct_in (n := s0) (by omega) hd
      have p1 := pct_in (n := s1) (by omega) hd
      rcases (by omega : k = 0 ∨ k = 1 ∨ k = 2) with rfl | rfl | rfl <;> simp [p0, p1] <;> (rcases (by omega : d = 1 ∨ d = 2 ∨ d = 3 ∨ d = 4 ∨ d = 5) with rfl | rfl | rfl | rfl | rfl <;> omega)
    · have e : stepsL s0 s1 s2 s3 = [s0, s1, s2] := by unfold stepsL; simp [List.takeWhile_cons, hS, show s0 ≠ 0 by omega, show s1 ≠ 0 by omega, show s2 ≠ 0 by omega]
      rw [e]
      refine ⟨3, rfl, by omega, rfl, fun k hk => ?_⟩
      have p0 := pct_in (n := s0) (by omega) hd
      have p1 := pct_in (n := s1) (by omega) hd
      have p2 := pct_in (n := s2) (by omega) hd
      rcases (by omega : k = 0 ∨ k = 1 ∨ k = 2 ∨ k = 3) with rfl | rfl | rfl | rfl <;> simp [p0, p1, p2] <;> (rcases (by omega : d = 1 ∨ d = 2 ∨ d = 3 ∨ d = 4 ∨ d = 5) with rfl | rfl | rfl | rfl | rfl <;> omega)
    · have e : stepsL s0 s1 s2 s3 = [s0, s1, s2, s3] := by unfold stepsL; simp [List.takeWhile_cons, show s0 ≠ 0 by omega, show s1 ≠ 0 by omega, show s2 ≠ 0 by omega, show s3 ≠ 0 by omega]
      rw [e]
      refine ⟨4, rfl, by omega, rfl, fun k hk => ?_⟩
      have p0 := pct_in (n := s0) (by omega) hd
      have p1 := pct_in (n := s1) (by omega) hd
      have p2 := pct_in (n := s2) (by omega) hd
      have p3 := pct_in (n := s3) (by omega) hd
      rcases (by omega : k = 0 ∨ k = 1 ∨ k = 2 ∨ k = 3 ∨ k = 4) with rfl | rfl | rfl | rfl | rfl <;> simp [p0, p1, p2, p3] <;> (rcases (by omega : d = 1 ∨ d = 2 ∨ d = 3 ∨ d = 4 ∨ d = 5) with rfl | rfl | rfl | rfl | rfl <;> omega)
  · obtain ⟨rfl, rfl, rfl, rfl⟩ := h.m_no h0
    have e : stepsL 0 0 0 0 = [] := by decide
    rw [e]
    refine ⟨0, rfl, by omega, rfl, fun k hk => ?_⟩
    obtain rfl : k = 0 := by omega
    simp
    omega
end Go.Proofs.Ytloljhopccpeeaa.B5
