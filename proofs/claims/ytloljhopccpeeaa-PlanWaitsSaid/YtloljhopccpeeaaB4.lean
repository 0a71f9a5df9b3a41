/-
  Proved here: what spec.Budget, batch.On answer; the example of the law package is true. No condition.
-/
import Derived.Test.YtloljhopccpeeaaB2
import Derived.Lib.QuietBelow
namespace Go.Proofs.Ytloljhopccpeeaa.B4
open Go.RowKit Go.Sort Go.Proofs.Ytloljhopccpeeaa.B0 Go.Proofs.Ytloljhopccpeeaa.B1 Go.Proofs.Ytloljhopccpeeaa.B1z Go.Proofs.Ytloljhopccpeeaa.B2 Go.Proofs.YtloljhopccpeeaaW.PrintWords Go.Proofs.YtloljhopccpeeaaW.PrintLast Go.Proofs.YtloljhopccpeeaaW.PrintMore
set_option linter.unusedVariables false
set_option linter.unusedSimpArgs false
theorem field29 (c0 c1 c2 c3 c4 c5 : Value) (w : World) : (Instr.field 29 (.agg #[c0, c1, c2, c3, c4, c5]) 1).run Try.prog w = .ok c1 w := by
  simp [Instr.field, run_underlying Try.underlying29, part, asAgg, Result.andThen]
attribute [local go_sem] max2_int min2_int max_two min_two field29

def cut (n : Int) : Int := mn (mx n 0) 1048576
def lowV (d u : Int) : Int := mx (wrap64 (mx (wrap64 (cut d - cut u)) 0 - cut 0)) 0
def highV (d s : Int) : Int := mx (wrap64 (wrap64 (cut d + cut s) - cut 0)) 0
theorem need_q (d u : Int) (w : World) : Calls Try.prog 37 #[.int .i64 0, .int .i64 d, .int .i64 u] w fun e w' => e = .returned (.int .i64 (lowV d u)) ∧ Below w.heap.size w w' := PPlanEnds.num_Need.calls 0 d u _ w rfl
theorem room_q (d s : Int) (w : World) : Calls Try.prog 38 #[.int .i64 0, .int .i64 d, .int .i64 s] w fun e w' => e = .returned (.int .i64 (highV d s)) ∧ Below w.heap.size w w' := PPlanEnds.num_Room.calls 0 d s _ w rfl

set_option maxHeartbeats 2000000 in
theorem budget_q (v d s u st s0 s1 s2 s3 p q r : Int) (w : World) : Calls Try.prog 30 #[.agg #[.int .i64 v, .int .i64 d, .int .i64 s, .int .i64 u, .int .i64 st, .int .i64 s0, .int .i64 s1, .int .i64 s2, .int .i64 s3, .int .i64 p, .int .i64 q, .int .i64 r]] w fun e w' => e = .returned (.tuple #[.int .i64 (lowV d u), .int .i64 (highV d s)]) ∧ Below w.heap.size w w' := by
  have HB := Aside0.mk (Below.refl w.heap.size w)
  go_enter Try.func30, Try.ntmps30
  go_wp2_with fail
  have D : IsBlk (w.alloc (.cells #[.int .i64 v, .int .i64 d, .int .i64 s, .int .i64 u, .int .i64 st, .int .i64 s0, .int .i64 s1, .int .i64 s2, .int .i64 s3, .int .i64 p, .int .i64 q, .int .i64 r] 24)) w.heap.size #[.int .i64 v, .int .i64 d, .int .i64 s, .int .i64 u, .int .i64 st, .int .i64 s0, .int .i64 s1, .int .i64 s2, .int .i64 s3, .int .i64 p, .int .i64 q, .int .i64 r] 24 := IsBlk.new _ _ rfl
  have D_0 := blk_cell D 0
  have D_1 := blk_cell D 1
  have D_2 := blk_cell D 2
  have D_3 := blk_cell D 3
  have D_4 := blk_cell D 4
  have D_5 := blk_cell D 5
  have D_6 := blk_cell D 6
  have D_7 := blk_cell D 7
  have D_8 := blk_cell D 8
  have D_9 := blk_cell D 9
  have D_10 := blk_cell D 10
  have D_11 := blk_cell D 11
  simp only [List.getElem?_toArray, List.getElem?_cons_zero, List.getElem?_cons_succ] at D_0 D_1 D_2 D_3 D_4 D_5 D_6 D_7 D_8 D_9 D_10 D_11
  have D_l := blk_lt D
  have HD := Aside0.mk D
  clear D
  have r_1 := cell_regrown D_1
  have r_2 := cell_regrown D_2
  have r_3 := cell_regrown D_3
  clear D_0 D_1 D_2 D_3 D_4 D_5 D_6 D_7 D_8 D_9 D_10 D_11 D_l
  have c1 : ∀ d' os, Calls Try.prog 37 #[.int .i64 0, .int .i64 d, .int .i64 u] (grow (redrawn (w.alloc (.cells #[.int .i64 v, .int .i64 d, .int .i64 s, .int .i64 u, .int .i64 st, .int .i64 s0, .int .i64 s1, .int .i64 s2, .int .i64 s3, .int .i64 p, .int .i64 q, .int .i64 r] 24)) d') os) (fun e w'' => e = .returned (.int .i64 (lowV d u)) ∧ ∃ z : Regrown, w'' = grow (redrawn (w.alloc (.cells #[.int .i64 v, .int .i64 d, .int .i64 s, .int .i64 u, .int .i64 st, .int .i64 s0, .int .i64 s1, .int .i64 s2, .int .i64 s3, .int .i64 p, .int .i64 q, .int .i64 r] 24)) z.d) z.os) := fun d' os => Calls.regrown_of (need_q d u _)
  have c2 : ∀ d' os, Calls Try.prog 38 #[.int .i64 0, .int .i64 d, .int .i64 s] (grow (redrawn (w.alloc (.cells #[.int .i64 v, .int .i64 d, .int .i64 s, .int .i64 u, .int .i64 st, .int .i64 s0, .int .i64 s1, .int .i64 s2, .int .i64 s3, .int .i64 p, .int .i64 q, .int .i64 r] 24)) d') os) (fun e w'' => e = .returned (.int .i64 (highV d s)) ∧ ∃ z : Regrown, w'' = grow (redrawn (w.alloc (.cells #[.int .i64 v, .int .i64 d, .int .i64 s, .int .i64 u, .int .i64 st, .int .i64 s0, .int .i64 s1, .int .i64 s2, .int .i64 s3, .int .i64 p, .int .i64 q, .int .i64 r] 24)) z.d) z.os) := fun d' os => Calls.regrown_of (room_q d s _)
  have C1 := Aside0.mk c1
  have C2 := Aside0.mk c2
  clear c1 c2
  refine wp_region_quiet_below (by kernel_rfl) (by kernel_rfl) ?_
  repeat (quiet_step (first | exact C1.out _ _ | exact C2.out _ _))
  refine wpQuiet_nil ?_
  intro _ hw'
  obtain ⟨⟨dq, osq⟩, hw''⟩ := hw'
  subst hw''
  have hb1 := below_regrown (w.alloc (.cells #[.int .i64 v, .int .i64 d, .int .i64 s, .int .i64 u, .int .i64 st, .int .i64 s0, .int .i64 s1, .int .i64 s2, .int .i64 s3, .int .i64 p, .int .i64 q, .int .i64 r] 24)) dq osq
  have HBQ := Aside0.mk (below_step (by repeat (first | (with_reducible first | exact HB.out | apply below_alloc | apply pw_below_drewN | apply below_drew1) | refine below_set ?_ (by omega))) hb1)
  clear hb1
  go_wp2
  go_ret2
  exact ⟨rfl, HBQ.out⟩

set_option maxRecDepth 100000 in
set_option maxHeartbeats 4000000 in
theorem on_q (v d s u st s0 s1 s2 s3 p q r i : Int) (w : World) : Calls Try.prog 19 #[.agg #[.int .i64 v, .int .i64 d, .int .i64 s, .int .i64 u, .int .i64 st, .int .i64 s0, .int .i64 s1, .int .i64 s2, .int .i64 s3, .int .i64 p, .int .i64 q, .int .i64 r], .int .i64 i] w fun e w' =>
    e = .returned (.agg (if (targetV v d s u st s0 s1 s2 s3 p q r i == 0) = true then #[.int .i64 0, .int .i64 0, .int .i64 0, .int .i64 0, .int .i64 0, .bool false] else #[.int .i64 v, .int .i64 (targetV v d s u st s0 s1 s2 s3 p q r i), .int .i64 d, .int .i64 (lowV d u), .int .i64 (highV d s), .bool (st == 2)])) ∧ Below w.heap.size w w' := by
  have HB := Aside0.mk (Below.refl w.heap.size w)
  obtain ⟨n, hn⟩ : ∃ n, targetV v d s u st s0 s1 s2 s3 p q r i = n := ⟨_, rfl⟩
  obtain ⟨lo, hlo⟩ : ∃ n, lowV d u = n := ⟨_, rfl⟩
  obtain ⟨hi, hhi⟩ : ∃ n, highV d s = n := ⟨_, rfl⟩
  rw [hn, hlo, hhi]
  have H1 := Aside0.mk hn
  have H2 := Aside0.mk hlo
  have H3 := Aside0.mk hhi
  clear hn hlo hhi
  cases hz : (n == 0) with
  | true =>
    rw [if_pos rfl]
    go_enter Try.func19, Try.ntmps19
    go_wp2_with fail
    refine (target_q v d s u st s0 s1 s2 s3 p q r i _).mono ?_
    rw [H1.out]
    rintro e w1 ⟨rfl, hb1⟩
    have R : IsBlk w1 (w.heap.size + 1) #[.int .i64 0, .int .i64 0, .int .i64 0, .int .i64 0, .int .i64 0, .bool false] 29 := IsBlk.below (by repeat (first | ((refine IsBlk.new _ _ ?_); (simp; done)) | apply IsBlk.alloc | apply IsBlk.drewN)) hb1
    have R_0 := blk_cell R 0
    have R_1 := blk_cell R 1
    have R_2 := blk_cell R 2
    have R_3 := blk_cell R 3
    have R_4 := blk_cell R 4
    have R_5 := blk_cell R 5
    simp only [List.getElem?_toArray, List.getElem?_cons_zero, List.getElem?_cons_succ] at R_0 R_1 R_2 R_3 R_4 R_5
    have R_z0 := blk_frozen R 0
    have R_z1 := blk_frozen R 1
    have R_z2 := blk_frozen R 2
    have R_z3 := blk_frozen R 3
    have R_z4 := blk_frozen R 4
    have R_z5 := blk_frozen R 5
    have R_l := blk_lt R
    have HR := Aside0.mk R
    clear R
    have n0 := Aside0.mk (below_step (by repeat (first | (with_reducible first | exact HB.out | apply below_alloc | apply pw_below_drewN | apply below_drew1) | refine below_set ?_ (by omega))) hb1)
    clear HB hb1
    have HB := n0
    clear n0
    go_wp2
    exact bodyPost_ret (v := .agg #[.int .i64 0, .int .i64 0, .int .i64 0, .int .i64 0, .int .i64 0, .bool false]) (by simp [results, Try.results19, go_sem, *]) rfl ⟨rfl, by repeat (first | (with_reducible first | exact HB.out | apply below_alloc | apply pw_below_drewN | apply below_drew1) | refine below_set ?_ (by omega))⟩
  | false =>
    rw [if_neg (by decide)]
    go_enter Try.func19, Try.ntmps19
    go_wp2_with fail
    refine (target_q v d s u st s0 s1 s2 s3 p q r i _).mono ?_
    rw [H1.out]
    rintro e w1 ⟨rfl, hb1⟩
    have D : IsBlk w1 (w.heap.size) #[.int .i64 v, .int .i64 d, .int .i64 s, .int .i64 u, .int .i64 st, .int .i64 s0, .int .i64 s1, .int .i64 s2, .int .i64 s3, .int .i64 p, .int .i64 q, .int .i64 r] 24 := IsBlk.below (by repeat (first | ((refine IsBlk.new _ _ ?_); (simp; done)) | apply IsBlk.alloc | apply IsBlk.drewN)) hb1
    have D_0 := blk_cell D 0
    have D_1 := blk_cell D 1
    have D_2 := blk_cell D 2
    have D_3 := blk_cell D 3
    have D_4 := blk_cell D 4
    have D_5 := blk_cell D 5
    have D_6 := blk_cell D 6
    have D_7 := blk_cell D 7
    have D_8 := blk_cell D 8
    have D_9 := blk_cell D 9
    have D_10 := blk_cell D 10
    have D_11 := blk_cell D 11
    simp only [List.getElem?_toArray, List.getElem?_cons_zero, List.getElem?_cons_succ] at D_0 D_1 D_2 D_3 D_4 D_5 D_6 D_7 D_8 D_9 D_10 D_11
    have D_z0 := blk_frozen D 0
    have D_z1 := blk_frozen D 1
    have D_z2 := blk_frozen D 2
    have D_z3 := blk_frozen D 3
    have D_z4 := blk_frozen D 4
    have D_z5 := blk_frozen D 5
    have D_z6 := blk_frozen D 6
    have D_z7 := blk_frozen D 7
    have D_z8 := blk_frozen D 8
    have D_z9 := blk_frozen D 9
    have D_z10 := blk_frozen D 10
    have D_z11 := blk_frozen D 11
    have D_l := blk_lt D
    have HD := Aside0.mk D
    clear D
    have R : IsBlk w1 (w.heap.size + 1) #[.int .i64 0, .int .i64 0, .int .i64 0, .int .i64 0, .int .i64 0, .bool false] 29 := IsBlk.below (by repeat (first | ((refine IsBlk.new _ _ ?_); (simp; done)) | apply IsBlk.alloc | apply IsBlk.drewN)) hb1
    have R_0 := blk_cell R 0
    have R_1 := blk_cell R 1
    have R_2 := blk_cell R 2
    have R_3 := blk_cell R 3
    have R_4 := blk_cell R 4
    have R_5 := blk_cell R 5
    simp only [List.getElem?_toArray, List.getElem?_cons_zero, List.getElem?_cons_succ] at R_0 R_1 R_2 R_3 R_4 R_5
    have R_z0 := blk_frozen R 0
    have R_z1 := blk_frozen R 1
    have R_z2 := blk_frozen R 2
    have R_z3 := blk_frozen R 3
    have R_z4 := blk_frozen R 4
    have R_z5 := blk_frozen R 5
    have R_l := blk_lt R
    have HR := Aside0.mk R
    clear R
    have n0 := Aside0.mk (below_step (by repeat (first | (with_reducible first | exact HB.out | apply below_alloc | apply pw_below_drewN | apply below_drew1) | refine below_set ?_ (by omega))) hb1)
    clear HB hb1
    have HB := n0
    clear n0
    have hw1 := R_l
    go_wp2_with fail
    refine (budget_q v d s u st s0 s1 s2 s3 p q r _).mono ?_
    rw [H2.out, H3.out]
    rintro e w2 ⟨rfl, hb1⟩
    have G : IsBlk w2 (w1.heap.size) #[.int .i64 v, .int .i64 n, .int .i64 d, .int .i64 0, .int .i64 0, .bool (st == 2)] 29 := IsBlk.below (by repeat (first | ((refine IsBlk.new _ _ ?_); (simp; done)) | apply IsBlk.alloc | apply IsBlk.drewN)) hb1
    have G_0 := blk_cell G 0
    have G_1 := blk_cell G 1
    have G_2 := blk_cell G 2
    have G_3 := blk_cell G 3
    have G_4 := blk_cell G 4
    have G_5 := blk_cell G 5
    simp only [List.getElem?_toArray, List.getElem?_cons_zero, List.getElem?_cons_succ] at G_0 G_1 G_2 G_3 G_4 G_5
    have G_z0 := blk_frozen G 0
    have G_z1 := blk_frozen G 1
    have G_z2 := blk_frozen G 2
    have G_z3 := blk_frozen G 3
    have G_z4 := blk_frozen G 4
    have G_z5 := blk_frozen G 5
    have G_l := blk_lt G
    have HG := Aside0.mk G
    clear G
    have D' := IsBlk.below (by repeat (with_reducible first | exact HD.out | apply IsBlk.alloc | apply IsBlk.drewN | apply IsBlk.drew)) hb1
    clear D_0 D_1 D_2 D_3 D_4 D_5 D_6 D_7 D_8 D_9 D_10 D_11 D_z0 D_z1 D_z2 D_z3 D_z4 D_z5 D_z6 D_z7 D_z8 D_z9 D_z10 D_z11 D_l HD
    have D := D'
    clear D'
    have D_0 := blk_cell D 0
    have D_1 := blk_cell D 1
    have D_2 := blk_cell D 2
    have D_3 := blk_cell D 3
    have D_4 := blk_cell D 4
    have D_5 := blk_cell D 5
    have D_6 := blk_cell D 6
    have D_7 := blk_cell D 7
    have D_8 := blk_cell D 8
    have D_9 := blk_cell D 9
    have D_10 := blk_cell D 10
    have D_11 := blk_cell D 11
    simp only [List.getElem?_toArray, List.getElem?_cons_zero, List.getElem?_cons_succ] at D_0 D_1 D_2 D_3 D_4 D_5 D_6 D_7 D_8 D_9 D_10 D_11
    have D_z0 := blk_frozen D 0
    have D_z1 := blk_frozen D 1
    have D_z2 := blk_frozen D 2
    have D_z3 := blk_frozen D 3
    have D_z4 := blk_frozen D 4
    have D_z5 := blk_frozen D 5
    have D_z6 := blk_frozen D 6
    have D_z7 := blk_frozen D 7
    have D_z8 := blk_frozen D 8
    have D_z9 := blk_frozen D 9
    have D_z10 := blk_frozen D 10
    have D_z11 := blk_frozen D 11
    have D_l := blk_lt D
    have HD := Aside0.mk D
    clear D
    have R' := IsBlk.below (by repeat (with_reducible first | exact HR.out | apply IsBlk.alloc | apply IsBlk.drewN | apply IsBlk.drew)) hb1
    clear R_0 R_1 R_2 R_3 R_4 R_5 R_z0 R_z1 R_z2 R_z3 R_z4 R_z5 R_l HR
    have R := R'
    clear R'
    have R_0 := blk_cell R 0
    have R_1 := blk_cell R 1
    have R_2 := blk_cell R 2
    have R_3 := blk_cell R 3
    have R_4 := blk_cell R 4
    have R_5 := blk_cell R 5
    simp only [List.getElem?_toArray, List.getElem?_cons_zero, List.getElem?_cons_succ] at R_0 R_1 R_2 R_3 R_4 R_5
    have R_z0 := blk_frozen R 0
    have R_z1 := blk_frozen R 1
    have R_z2 := blk_frozen R 2
    have R_z3 := blk_frozen R 3
    have R_z4 := blk_frozen R 4
    have R_z5 := blk_frozen R 5
    have R_l := blk_lt R
    have HR := Aside0.mk R
    clear R
    have n0 := Aside0.mk (below_step (by repeat (first | (with_reducible first | exact HB.out | apply below_alloc | apply pw_below_drewN | apply below_drew1) | refine below_set ?_ (by omega))) hb1)
    clear HB hb1
    have HB := n0
    clear n0
    have hne : w1.heap.size ≠ w.heap.size + 1 := by omega
    go_wp2
    exact bodyPost_ret (v := .agg #[.int .i64 v, .int .i64 n, .int .i64 d, .int .i64 lo, .int .i64 hi, .bool (st == 2)]) (by simp [results, Try.results19, go_sem, *]) rfl ⟨rfl, by repeat (first | (with_reducible first | exact HB.out | apply below_alloc | apply pw_below_drewN | apply below_drew1) | refine below_set ?_ (by omega))⟩

end Go.Proofs.Ytloljhopccpeeaa.B4
