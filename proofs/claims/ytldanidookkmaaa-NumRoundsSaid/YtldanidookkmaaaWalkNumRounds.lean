/-
  Proved here: NumRounds answers true, at all whole numbers of 64 bits: the walk. No condition.
-/
import Derived.Test.YtldanidookkmaaaA1
import Derived.Test.YtldanidookkmaaaPureNumRoundsOwn
namespace Go.Proofs.Ytldanidookkmaaa.WalkNumRounds
open Go.RowKit Go.Proofs.Ytldanidookkmaaa.Rounds Go.Proofs.Ytldanidookkmaaa.A1 Go.Proofs.Ytldanidookkmaaa.PNumSums Go.Proofs.YtldanidookkmaaaW.PrintWords Go.Proofs.YtldanidookkmaaaW.PrintLast Go.Proofs.YtldanidookkmaaaW.PrintMore
set_option linter.unusedVariables false
attribute [local go_sem] max2_int min2_int max_two min_two

set_option maxHeartbeats 1000000 in
theorem walk_with (p q n A B C D E F M X : Int) (w : World) (hA : perc p n false = A) (hB : perc p n true = B) (hC : perc M n true = C) (hD : perc X n true = D) (hE : cut n = E) (hF : perc 0 n true = F) (hG : perc 100 n false = E)
    (hM : (if q < p then q else p) = M) (hX : (if p < q then q else p) = X)
    (b1 : 0 ≤ A) (b2 : A ≤ 1048576) (b3 : 0 ≤ B) (b4 : B ≤ 1048576)
    (h1 : decide (A ≤ B) = true) (h2 : decide (B - A ≤ 1) = true) (h3 : decide (C ≤ D) = true) (h4 : decide (0 ≤ A) = true) (h5 : decide (B ≤ E) = true) (h6 : (F == 0) = true) :
    Calls Try.prog 4 #[.int .i64 p, .int .i64 q, .int .i64 n] w fun e w' => e = .returned (.bool true) ∧ Below w.heap.size w w' := by
  have HB := Aside0.mk (Below.refl w.heap.size w)
  have HA := Aside0.mk hA
  have HB1 := Aside0.mk hB
  have HC := Aside0.mk hC
  have HD := Aside0.mk hD
  have HE := Aside0.mk hE
  have HF := Aside0.mk hF
  have HG := Aside0.mk hG
  clear hA hB hC hD hE hF hG
  go_enter Try.func4, Try.ntmps4
  go_wp2_with (first | (go_at_call 10; refine (lives_any _).mono ?_; rintro e w1 ⟨rfl, hb⟩; have n0_ := Aside0.mk (below_step HB.out hb); clear HB hb; have HB := n0_; clear n0_) | (go_at_call 15; refine (percent_any _ _ _ _).mono ?_; rintro e w1 ⟨rfl, hb⟩; (first | rw [HA.out] | rw [HB1.out] | rw [HC.out] | rw [HD.out] | rw [HF.out] | rw [HG.out]); have n0_ := Aside0.mk (below_step HB.out hb); clear HB hb; have HB := n0_; clear n0_) | (go_at_call 14; refine (cut_any _ _).mono ?_; rintro e w1 ⟨rfl, hb⟩; rw [HE.out]; have n0_ := Aside0.mk (below_step HB.out hb); clear HB hb; have HB := n0_; clear n0_))
  go_ret
  exact ⟨rfl, HB.out⟩
theorem walk (p q n : Int) (w : World) (_ : (Lit.int .i64 p).wf = true) (_ : (Lit.int .i64 q).wf = true) (_ : (Lit.int .i64 n).wf = true) : Calls Try.prog 4 #[.int .i64 p, .int .i64 q, .int .i64 n] w fun e w' => e = .returned (.bool true) ∧ Below w.heap.size w w' := by
  have b1 := perc_bounds p n false
  have b2 := perc_bounds p n true
  have b3 := cut_bounds n
  have u := perc_up p n
  have m := perc_mono (mn p q) (mx p q) n (mn_le_mx p q)
  exact walk_with p q n _ _ _ _ _ _ _ _ w rfl rfl rfl rfl rfl rfl (perc_all n) rfl rfl b1.1 (by omega) b2.1 (by omega) (by simp; omega) (by simp; omega) (decide_eq_true m) (by simp; omega) (by simp; omega) (by simp [perc_none])
end Go.Proofs.Ytldanidookkmaaa.WalkNumRounds
