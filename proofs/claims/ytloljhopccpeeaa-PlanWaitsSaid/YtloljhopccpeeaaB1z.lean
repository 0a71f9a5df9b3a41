/-
  Proved here: what spec.Check, batch.right answer. No condition.
-/
import Derived.Test.YtloljhopccpeeaaB1a
import Derived.Test.YtloljhopccpeeaaB1b
import Derived.Test.YtloljhopccpeeaaB1c
import Derived.Test.YtloljhopccpeeaaB1d

namespace Go.Proofs.Ytloljhopccpeeaa.B1z
open Go.RowKit Go.Sort Go.Proofs.Ytloljhopccpeeaa.B0 Go.Proofs.Ytloljhopccpeeaa.Mild Go.Proofs.Ytloljhopccpeeaa.B1 Go.Proofs.YtloljhopccpeeaaW.PrintWords Go.Proofs.YtloljhopccpeeaaW.PrintLast Go.Proofs.YtloljhopccpeeaaW.PrintMore
set_option linter.unusedVariables false
set_option linter.unusedSimpArgs false
attribute [local go_sem] max2_int min2_int max_two min_two mild mildAt idx0 idx1 idx2 idx3 idx4 idx5 idx6 idx7 idx8 idx9 idx10 idx11

/-- May a spec be? -/
def okL (v d s u st s0 s1 s2 s3 p q r : Int) : List Bool := [betw v 1 1048576, betw d 1 16, betw s 0 (wrap64 (16 - d)), (betw u 0 d && (decide (0 < u) || decide (0 < s))), (betw st 0 2 && (st != 2 || decide (d ≤ s))), stepB st s0 0 false, stepB st s1 s0 true, stepB st s2 s1 true, stepB st s3 s2 true, betw p 1 1048576, betw q 0 1048576, betw r 1 1048576]
def okB (v d s u st s0 s1 s2 s3 p q r : Int) : Bool := (okL v d s u st s0 s1 s2 s3 p q r).all (fun b => b)
theorem check_q (v d s u st s0 s1 s2 s3 p q r : Int) (w : World) : Calls Try.prog 36 #[.agg #[.int .i64 v, .int .i64 d, .int .i64 s, .int .i64 u, .int .i64 st, .int .i64 s0, .int .i64 s1, .int .i64 s2, .int .i64 s3, .int .i64 p, .int .i64 q, .int .i64 r]] w fun e w' => ∃ n x : Int, e = .returned (.tuple #[.int .i64 n, .int .i64 x]) ∧ (x == 0) = okB v d s u st s0 s1 s2 s3 p q r ∧ Below w.heap.size w w' := by
  unfold okB okL
  cases h3 : betw u 0 d with
  | false =>
    cases h4 : betw st 0 2 with
    | false => exact (B1a.check_aa v d s u st s0 s1 s2 s3 p q r w h3 h4 _ rfl).mono fun e w' ⟨n, x, h, hx, hb⟩ => ⟨n, x, h, by rw [hx]; simp, hb⟩
    | true =>
      by_cases h2 : st = 2
      · subst h2
        exact (B1d.check_ac v d s u s0 s1 s2 s3 p q r w h3 h4 _ rfl).mono fun e w' ⟨n, x, h, hx, hb⟩ => ⟨n, x, h, by rw [hx]; simp, hb⟩
      · exact (B1a.check_ab v d s u st s0 s1 s2 s3 p q r w h3 h4 (by simpa using h2) _ rfl).mono fun e w' ⟨n, x, h, hx, hb⟩ => ⟨n, x, h, by rw [hx, show (st != 2) = true by simpa using h2]; simp, hb⟩
  | true =>
    cases h3' : decide (0 < u) with
    | true =>
      cases h4 : betw st 0 2 with
      | false => exact (B1b.check_ba v d s u st s0 s1 s2 s3 p q r w h3 h3' h4 _ rfl).mono fun e w' ⟨n, x, h, hx, hb⟩ => ⟨n, x, h, by rw [hx]; simp, hb⟩
      | true =>
        by_cases h2 : st = 2
        · subst h2
          exact (B1d.check_bc v d s u s0 s1 s2 s3 p q r w h3 h3' h4 _ rfl).mono fun e w' ⟨n, x, h, hx, hb⟩ => ⟨n, x, h, by rw [hx]; simp, hb⟩
        · exact (B1b.check_bb v d s u st s0 s1 s2 s3 p q r w h3 h3' h4 (by simpa using h2) _ rfl).mono fun e w' ⟨n, x, h, hx, hb⟩ => ⟨n, x, h, by rw [hx, show (st != 2) = true by simpa using h2]; simp, hb⟩
    | false =>
      cases h4 : betw st 0 2 with
      | false => exact (B1c.check_ca v d s u st s0 s1 s2 s3 p q r w h3 h3' h4 _ rfl).mono fun e w' ⟨n, x, h, hx, hb⟩ => ⟨n, x, h, by rw [hx]; simp, hb⟩
      | true =>
        by_cases h2 : st = 2
        · subst h2
          exact (B1d.check_cc v d s u s0 s1 s2 s3 p q r w h3 h3' h4 _ rfl).mono fun e w' ⟨n, x, h, hx, hb⟩ => ⟨n, x, h, by rw [hx]; simp, hb⟩
        · exact (B1c.check_cb v d s u st s0 s1 s2 s3 p q r w h3 h3' h4 (by simpa using h2) _ rfl).mono fun e w' ⟨n, x, h, hx, hb⟩ => ⟨n, x, h, by rw [hx, show (st != 2) = true by simpa using h2]; simp, hb⟩
theorem right_q (v d s u st s0 s1 s2 s3 p q r : Int) (w : World) : Calls Try.prog 29 #[.agg #[.int .i64 v, .int .i64 d, .int .i64 s, .int .i64 u, .int .i64 st, .int .i64 s0, .int .i64 s1, .int .i64 s2, .int .i64 s3, .int .i64 p, .int .i64 q, .int .i64 r]] w fun e w' => e = .returned (.bool (okB v d s u st s0 s1 s2 s3 p q r)) ∧ Below w.heap.size w w' := by
  have HB := Aside0.mk (Below.refl w.heap.size w)
  go_enter Try.func29, Try.ntmps29
  go_wp2_with fail
  refine (check_q v d s u st s0 s1 s2 s3 p q r _).mono ?_
  rintro e w1 ⟨n, x, rfl, hx, hb1⟩
  have n0 := Aside0.mk (below_step (by repeat (first | (with_reducible first | exact HB.out | apply below_alloc | apply pw_below_drewN | apply below_drew1) | refine below_set ?_ (by omega))) hb1)
  clear HB hb1
  have HB := n0
  clear n0
  have HX := Aside0.mk hx
  clear hx
  go_wp2
  go_ret
  exact ⟨ret_bool HX.out, by repeat (first | (with_reducible first | exact HB.out | apply below_alloc | apply pw_below_drewN | apply below_drew1) | refine below_set ?_ (by omega))⟩
end Go.Proofs.Ytloljhopccpeeaa.B1z
