/-
  Proved here: what batch.Back answers. No condition.
-/
import Derived.Test.YtloljhopccpeeaaB4
import Derived.RegionTactic
import Derived.ChangeAlike
namespace Go.Proofs.Ytloljhopccpeeaa.B6
open Go.RowKit Go.Sort Go.Proofs.Ytloljhopccpeeaa.B0 Go.Proofs.Ytloljhopccpeeaa.B1 Go.Proofs.Ytloljhopccpeeaa.B1z Go.Proofs.Ytloljhopccpeeaa.B2 Go.Proofs.Ytloljhopccpeeaa.B4 Go.Proofs.YtloljhopccpeeaaW.PrintWords Go.Proofs.YtloljhopccpeeaaW.PrintLast Go.Proofs.YtloljhopccpeeaaW.PrintMore
set_option linter.unusedVariables false
set_option linter.unusedSimpArgs false
attribute [local go_sem] max2_int min2_int max_two min_two

set_option maxRecDepth 100000 in
set_option maxHeartbeats 4000000 in
theorem back_bad (v d s u st s0 s1 s2 s3 p q r i : Int) (w : World) (hok : okB v d s u st s0 s1 s2 s3 p q r = false) : Calls Try.prog 18 #[.agg #[.int .i64 v, .int .i64 d, .int .i64 s, .int .i64 u, .int .i64 st, .int .i64 s0, .int .i64 s1, .int .i64 s2, .int .i64 s3, .int .i64 p, .int .i64 q, .int .i64 r], .int .i64 i] w fun e w' => e = .returned (.agg #[.int .i64 0, .int .i64 0, .int .i64 0, .int .i64 0, .int .i64 0, .bool false]) ∧ Below w.heap.size w w' := by
  have HB := Aside0.mk (Below.refl w.heap.size w)
  go_enter Try.func18, Try.ntmps18
  go_wp2_with fail
  refine (right_q v d s u st s0 s1 s2 s3 p q r _).mono ?_
  rw [hok]
  rintro e w1 ⟨rfl, hb1⟩
  have D : IsBlk w1 (w.heap.size) #[.int .i64 v, .int .i64 d, .int .i64 s, .int .i64 u, .int .i64 st, .int .i64 s0, .int .i64 s1, .int .i64 s2, .int .i64 s3, .int .i64 p, .int .i64 q, .int .i64 r] 24 := IsBlk.below (by repeat (first | ((refine IsBlk.new _ _ ?_); (simp; done)) | apply IsBlk.alloc | apply IsBlk.drewN)) hb1
  have D_0 := blk_cell D 0
  have D_1 := blk_cell D 1
  have D_2 := blk_cell D 2
  have D_3 := blk_cell D 3
  have D_4 := blk_cell D 4
  have D_5 := blk_cell D 5
  have D_6 := blk_cell D 6
  have D_7 := blk_cell D 7
  have D_8 := blk_cell D 8
  have D_9 := blk_cell D 9
  have D_10 := blk_cell D 10
  have D_11 := blk_cell D 11
  simp only [List.getElem?_toArray, List.getElem?_cons_zero, List.getElem?_cons_succ] at D_0 D_1 D_2 D_3 D_4 D_5 D_6 D_7 D_8 D_9 D_10 D_11
  have D_z0 := blk_frozen D 0
  have D_z1 := blk_frozen D 1
  have D_z2 := blk_frozen D 2
  have D_z3 := blk_frozen D 3
  have D_z4 := blk_frozen D 4
  have D_z5 := blk_frozen D 5
  have D_z6 := blk_frozen D 6
  have D_z7 := blk_frozen D 7
  have D_z8 := blk_frozen D 8
  have D_z9 := blk_frozen D 9
  have D_z10 := blk_frozen D 10
  have D_z11 := blk_frozen D 11
  have D_l := blk_lt D
  have HD := Aside0.mk D
  clear D
  have R : IsBlk w1 (w.heap.size + 1) #[.int .i64 0, .int .i64 0, .int .i64 0, .int .i64 0, .int .i64 0, .bool false] 29 := IsBlk.below (by repeat (first | ((refine IsBlk.new _ _ ?_); (simp; done)) | apply IsBlk.alloc | apply IsBlk.drewN)) hb1
  have R_0 := blk_cell R 0
  have R_1 := blk_cell R 1
  have R_2 := blk_cell R 2
  have R_3 := blk_cell R 3
  have R_4 := blk_cell R 4
  have R_5 := blk_cell R 5
  simp only [List.getElem?_toArray, List.getElem?_cons_zero, List.getElem?_cons_succ] at R_0 R_1 R_2 R_3 R_4 R_5
  have R_z0 := blk_frozen R 0
  have R_z1 := blk_frozen R 1
  have R_z2 := blk_frozen R 2
  have R_z3 := blk_frozen R 3
  have R_z4 := blk_frozen R 4
  have R_z5 := blk_frozen R 5
  have R_l := blk_lt R
  have HR := Aside0.mk R
  clear R
  have G : IsBlk w1 (w.heap.size + 2) #[.int .i64 0, .int .i64 0, .int .i64 0, .int .i64 0, .int .i64 0, .bool false] 29 := IsBlk.below (by repeat (first | ((refine IsBlk.new _ _ ?_); (simp; done)) | apply IsBlk.alloc | apply IsBlk.drewN)) hb1
  have G_0 := blk_cell G 0
  have G_1 := blk_cell G 1
  have G_2 := blk_cell G 2
  have G_3 := blk_cell G 3
  have G_4 := blk_cell G 4
  have G_5 := blk_cell G 5
  simp only [List.getElem?_toArray, List.getElem?_cons_zero, List.getElem?_cons_succ] at G_0 G_1 G_2 G_3 G_4 G_5
  have G_z0 := blk_frozen G 0
  have G_z1 := blk_frozen G 1
  have G_z2 := blk_frozen G 2
  have G_z3 := blk_frozen G 3
  have G_z4 := blk_frozen G 4
  have G_z5 := blk_frozen G 5
  have G_l := blk_lt G
  have HG := Aside0.mk G
  clear G
  have n0 := Aside0.mk (below_step (by repeat (first | (with_reducible first | exact HB.out | apply below_alloc | apply pw_below_drewN | apply below_drew1) | refine below_set ?_ (by omega))) hb1)
  clear HB hb1
  have HB := n0
  clear n0
  go_wp2
  exact bodyPost_ret (v := .agg #[.int .i64 0, .int .i64 0, .int .i64 0, .int .i64 0, .int .i64 0, .bool false]) (by simp [results, Try.results18, go_sem, *]) rfl ⟨rfl, by repeat (first | (with_reducible first | exact HB.out | apply below_alloc | apply pw_below_drewN | apply below_drew1) | refine below_set ?_ (by omega))⟩

set_option maxRecDepth 100000 in
set_option maxHeartbeats 4000000 in
theorem back_neg (v d s u st s0 s1 s2 s3 p q r i : Int) (w : World) (hok : okB v d s u st s0 s1 s2 s3 p q r = true) (hi : decide (i < 0) = true) : Calls Try.prog 18 #[.agg #[.int .i64 v, .int .i64 d, .int .i64 s, .int .i64 u, .int .i64 st, .int .i64 s0, .int .i64 s1, .int .i64 s2, .int .i64 s3, .int .i64 p, .int .i64 q, .int .i64 r], .int .i64 i] w fun e w' => e = .returned (.agg #[.int .i64 0, .int .i64 0, .int .i64 0, .int .i64 0, .int .i64 0, .bool false]) ∧ Below w.heap.size w w' := by
  have HB := Aside0.mk (Below.refl w.heap.size w)
  have HI := Aside0.mk hi
  clear hi
  go_enter Try.func18, Try.ntmps18
  go_wp2_with fail
  refine (right_q v d s u st s0 s1 s2 s3 p q r _).mono ?_
  rw [hok]
  rintro e w1 ⟨rfl, hb1⟩
  have D : IsBlk w1 (w.heap.size) #[.int .i64 v, .int .i64 d, .int .i64 s, .int .i64 u, .int .i64 st, .int .i64 s0, .int .i64 s1, .int .i64 s2, .int .i64 s3, .int .i64 p, .int .i64 q, .int .i64 r] 24 := IsBlk.below (by repeat (first | ((refine IsBlk.new _ _ ?_); (simp; done)) | apply IsBlk.alloc | apply IsBlk.drewN)) hb1
  have D_0 := blk_cell D 0
  have D_1 := blk_cell D 1
  have D_2 := blk_cell D 2
  have D_3 := blk_cell D 3
  have D_4 := blk_cell D 4
  have D_5 := blk_cell D 5
  have D_6 := blk_cell D 6
  have D_7 := blk_cell D 7
  have D_8 := blk_cell D 8
  have D_9 := blk_cell D 9
  have D_10 := blk_cell D 10
  have D_11 := blk_cell D 11
  simp only [List.getElem?_toArray, List.getElem?_cons_zero, List.getElem?_cons_succ] at D_0 D_1 D_2 D_3 D_4 D_5 D_6 D_7 D_8 D_9 D_10 D_11
  have D_z0 := blk_frozen D 0
  have D_z1 := blk_frozen D 1
  have D_z2 := blk_frozen D 2
  have D_z3 := blk_frozen D 3
  have D_z4 := blk_frozen D 4
  have D_z5 := blk_frozen D 5
  have D_z6 := blk_frozen D 6
  have D_z7 := blk_frozen D 7
  have D_z8 := blk_frozen D 8
  have D_z9 := blk_frozen D 9
  have D_z10 := blk_frozen D 10
  have D_z11 := blk_frozen D 11
  have D_l := blk_lt D
  have HD := Aside0.mk D
  clear D
  have R : IsBlk w1 (w.heap.size + 1) #[.int .i64 0, .int .i64 0, .int .i64 0, .int .i64 0, .int .i64 0, .bool false] 29 := IsBlk.below (by repeat (first | ((refine IsBlk.new _ _ ?_); (simp; done)) | apply IsBlk.alloc | apply IsBlk.drewN)) hb1
  have R_0 := blk_cell R 0
  have R_1 := blk_cell R 1
  have R_2 := blk_cell R 2
  have R_3 := blk_cell R 3
  have R_4 := blk_cell R 4
  have R_5 := blk_cell R 5
  simp only [List.getElem?_toArray, List.getElem?_cons_zero, List.getElem?_cons_succ] at R_0 R_1 R_2 R_3 R_4 R_5
  have R_z0 := blk_frozen R 0
  have R_z1 := blk_frozen R 1
  have R_z2 := blk_frozen R 2
  have R_z3 := blk_frozen R 3
  have R_z4 := blk_frozen R 4
  have R_z5 := blk_frozen R 5
  have R_l := blk_lt R
  have HR := Aside0.mk R
  clear R
  have G : IsBlk w1 (w.heap.size + 2) #[.int .i64 0, .int .i64 0, .int .i64 0, .int .i64 0, .int .i64 0, .bool false] 29 := IsBlk.below (by repeat (first | ((refine IsBlk.new _ _ ?_); (simp; done)) | apply IsBlk.alloc | apply IsBlk.drewN)) hb1
  have G_0 := blk_cell G 0
  have G_1 := blk_cell G 1
  have G_2 := blk_cell G 2
  have G_3 := blk_cell G 3
  have G_4 := blk_cell G 4
  have G_5 := blk_cell G 5
  simp only [List.getElem?_toArray, List.getElem?_cons_zero, List.getElem?_cons_succ] at G_0 G_1 G_2 G_3 G_4 G_5
  have G_z0 := blk_frozen G 0
  have G_z1 := blk_frozen G 1
  have G_z2 := blk_frozen G 2
  have G_z3 := blk_frozen G 3
  have G_z4 := blk_frozen G 4
  have G_z5 := blk_frozen G 5
  have G_l := blk_lt G
  have HG := Aside0.mk G
  clear G
  have n0 := Aside0.mk (below_step (by repeat (first | (with_reducible first | exact HB.out | apply below_alloc | apply pw_below_drewN | apply below_drew1) | refine below_set ?_ (by omega))) hb1)
  clear HB hb1
  have HB := n0
  clear n0
  have hi := HI.out
  go_wp2
  exact bodyPost_ret (v := .agg #[.int .i64 0, .int .i64 0, .int .i64 0, .int .i64 0, .int .i64 0, .bool false]) (by simp [results, Try.results18, go_sem, *]) rfl ⟨rfl, by repeat (first | (with_reducible first | exact HB.out | apply below_alloc | apply pw_below_drewN | apply below_drew1) | refine below_set ?_ (by omega))⟩

set_option maxRecDepth 100000 in
set_option maxHeartbeats 4000000 in
theorem back_0 (v d s u st s0 s1 s2 s3 p q r i : Int) (w : World) (hok : okB v d s u st s0 s1 s2 s3 p q r = true) (hi0 : i = 0) : Calls Try.prog 18 #[.agg #[.int .i64 v, .int .i64 d, .int .i64 s, .int .i64 u, .int .i64 st, .int .i64 s0, .int .i64 s1, .int .i64 s2, .int .i64 s3, .int .i64 p, .int .i64 q, .int .i64 r], .int .i64 i] w fun e w' => e = .returned (.agg #[.int .i64 0, .int .i64 0, .int .i64 0, .int .i64 0, .int .i64 (highV d s), .bool false]) ∧ Below w.heap.size w w' := by
  have HB := Aside0.mk (Below.refl w.heap.size w)
  obtain ⟨lo, hlo⟩ : ∃ n, lowV d u = n := ⟨_, rfl⟩
  obtain ⟨hi, hhi⟩ : ∃ n, highV d s = n := ⟨_, rfl⟩
  rw [hhi]
  have H2 := Aside0.mk hlo
  have H3 := Aside0.mk hhi
  clear hlo hhi
  subst hi0
  go_enter Try.func18, Try.ntmps18
  go_wp2_with fail
  refine (right_q v d s u st s0 s1 s2 s3 p q r _).mono ?_
  rw [hok]
  rintro e w1 ⟨rfl, hb1⟩
  have D : IsBlk w1 (w.heap.size) #[.int .i64 v, .int .i64 d, .int .i64 s, .int .i64 u, .int .i64 st, .int .i64 s0, .int .i64 s1, .int .i64 s2, .int .i64 s3, .int .i64 p, .int .i64 q, .int .i64 r] 24 := IsBlk.below (by repeat (first | ((refine IsBlk.new _ _ ?_); (simp; done)) | apply IsBlk.alloc | apply IsBlk.drewN)) hb1
  have D_0 := blk_cell D 0
  have D_1 := blk_cell D 1
  have D_2 := blk_cell D 2
  have D_3 := blk_cell D 3
  have D_4 := blk_cell D 4
  have D_5 := blk_cell D 5
  have D_6 := blk_cell D 6
  have D_7 := blk_cell D 7
  have D_8 := blk_cell D 8
  have D_9 := blk_cell D 9
  have D_10 := blk_cell D 10
  have D_11 := blk_cell D 11
  simp only [List.getElem?_toArray, List.getElem?_cons_zero, List.getElem?_cons_succ] at D_0 D_1 D_2 D_3 D_4 D_5 D_6 D_7 D_8 D_9 D_10 D_11
  have D_z0 := blk_frozen D 0
  have D_z1 := blk_frozen D 1
  have D_z2 := blk_frozen D 2
  have D_z3 := blk_frozen D 3
  have D_z4 := blk_frozen D 4
  have D_z5 := blk_frozen D 5
  have D_z6 := blk_frozen D 6
  have D_z7 := blk_frozen D 7
  have D_z8 := blk_frozen D 8
  have D_z9 := blk_frozen D 9
  have D_z10 := blk_frozen D 10
  have D_z11 := blk_frozen D 11
  have D_l := blk_lt D
  have HD := Aside0.mk D
  clear D
  have R : IsBlk w1 (w.heap.size + 1) #[.int .i64 0, .int .i64 0, .int .i64 0, .int .i64 0, .int .i64 0, .bool false] 29 := IsBlk.below (by repeat (first | ((refine IsBlk.new _ _ ?_); (simp; done)) | apply IsBlk.alloc | apply IsBlk.drewN)) hb1
  have R_0 := blk_cell R 0
  have R_1 := blk_cell R 1
  have R_2 := blk_cell R 2
  have R_3 := blk_cell R 3
  have R_4 := blk_cell R 4
  have R_5 := blk_cell R 5
  simp only [List.getElem?_toArray, List.getElem?_cons_zero, List.getElem?_cons_succ] at R_0 R_1 R_2 R_3 R_4 R_5
  have R_z0 := blk_frozen R 0
  have R_z1 := blk_frozen R 1
  have R_z2 := blk_frozen R 2
  have R_z3 := blk_frozen R 3
  have R_z4 := blk_frozen R 4
  have R_z5 := blk_frozen R 5
  have R_l := blk_lt R
  have HR := Aside0.mk R
  clear R
  have G : IsBlk w1 (w.heap.size + 2) #[.int .i64 0, .int .i64 0, .int .i64 0, .int .i64 0, .int .i64 0, .bool false] 29 := IsBlk.below (by repeat (first | ((refine IsBlk.new _ _ ?_); (simp; done)) | apply IsBlk.alloc | apply IsBlk.drewN)) hb1
  have G_0 := blk_cell G 0
  have G_1 := blk_cell G 1
  have G_2 := blk_cell G 2
  have G_3 := blk_cell G 3
  have G_4 := blk_cell G 4
  have G_5 := blk_cell G 5
  simp only [List.getElem?_toArray, List.getElem?_cons_zero, List.getElem?_cons_succ] at G_0 G_1 G_2 G_3 G_4 G_5
  have G_z0 := blk_frozen G 0
  have G_z1 := blk_frozen G 1
  have G_z2 := blk_frozen G 2
  have G_z3 := blk_frozen G 3
  have G_z4 := blk_frozen G 4
  have G_z5 := blk_frozen G 5
  have G_l := blk_lt G
  have HG := Aside0.mk G
  clear G
  have n0 := Aside0.mk (below_step (by repeat (first | (with_reducible first | exact HB.out | apply below_alloc | apply pw_below_drewN | apply below_drew1) | refine below_set ?_ (by omega))) hb1)
  clear HB hb1
  have HB := n0
  clear n0
  go_wp2_with fail
  refine (budget_q v d s u st s0 s1 s2 s3 p q r _).mono ?_
  rw [H2.out, H3.out]
  rintro e w2 ⟨rfl, hb1⟩
  have D' := IsBlk.below (by repeat (with_reducible first | exact HD.out | apply IsBlk.alloc | apply IsBlk.drewN | apply IsBlk.drew)) hb1
  clear D_0 D_1 D_2 D_3 D_4 D_5 D_6 D_7 D_8 D_9 D_10 D_11 D_z0 D_z1 D_z2 D_z3 D_z4 D_z5 D_z6 D_z7 D_z8 D_z9 D_z10 D_z11 D_l HD
  have D := D'
  clear D'
  have D_0 := blk_cell D 0
  have D_1 := blk_cell D 1
  have D_2 := blk_cell D 2
  have D_3 := blk_cell D 3
  have D_4 := blk_cell D 4
  have D_5 := blk_cell D 5
  have D_6 := blk_cell D 6
  have D_7 := blk_cell D 7
  have D_8 := blk_cell D 8
  have D_9 := blk_cell D 9
  have D_10 := blk_cell D 10
  have D_11 := blk_cell D 11
  simp only [List.getElem?_toArray, List.getElem?_cons_zero, List.getElem?_cons_succ] at D_0 D_1 D_2 D_3 D_4 D_5 D_6 D_7 D_8 D_9 D_10 D_11
  have D_z0 := blk_frozen D 0
  have D_z1 := blk_frozen D 1
  have D_z2 := blk_frozen D 2
  have D_z3 := blk_frozen D 3
  have D_z4 := blk_frozen D 4
  have D_z5 := blk_frozen D 5
  have D_z6 := blk_frozen D 6
  have D_z7 := blk_frozen D 7
  have D_z8 := blk_frozen D 8
  have D_z9 := blk_frozen D 9
  have D_z10 := blk_frozen D 10
  have D_z11 := blk_frozen D 11
  have D_l := blk_lt D
  have HD := Aside0.mk D
  clear D
  have R' := IsBlk.below (by repeat (with_reducible first | exact HR.out | apply IsBlk.alloc | apply IsBlk.drewN | apply IsBlk.drew)) hb1
  clear R_0 R_1 R_2 R_3 R_4 R_5 R_z0 R_z1 R_z2 R_z3 R_z4 R_z5 R_l HR
  have R := R'
  clear R'
  have R_0 := blk_cell R 0
  have R_1 := blk_cell R 1
  have R_2 := blk_cell R 2
  have R_3 := blk_cell R 3
  have R_4 := blk_cell R 4
  have R_5 := blk_cell R 5
  simp only [List.getElem?_toArray, List.getElem?_cons_zero, List.getElem?_cons_succ] at R_0 R_1 R_2 R_3 R_4 R_5
  have R_z0 := blk_frozen R 0
  have R_z1 := blk_frozen R 1
  have R_z2 := blk_frozen R 2
  have R_z3 := blk_frozen R 3
  have R_z4 := blk_frozen R 4
  have R_z5 := blk_frozen R 5
  have R_l := blk_lt R
  have HR := Aside0.mk R
  clear R
  have G' := IsBlk.below (by repeat (with_reducible first | exact HG.out | apply IsBlk.alloc | apply IsBlk.drewN | apply IsBlk.drew)) hb1
  clear G_0 G_1 G_2 G_3 G_4 G_5 G_z0 G_z1 G_z2 G_z3 G_z4 G_z5 G_l HG
  have G := G'
  clear G'
  have G_0 := blk_cell G 0
  have G_1 := blk_cell G 1
  have G_2 := blk_cell G 2
  have G_3 := blk_cell G 3
  have G_4 := blk_cell G 4
  have G_5 := blk_cell G 5
  simp only [List.getElem?_toArray, List.getElem?_cons_zero, List.getElem?_cons_succ] at G_0 G_1 G_2 G_3 G_4 G_5
  have G_z0 := blk_frozen G 0
  have G_z1 := blk_frozen G 1
  have G_z2 := blk_frozen G 2
  have G_z3 := blk_frozen G 3
  have G_z4 := blk_frozen G 4
  have G_z5 := blk_frozen G 5
  have G_l := blk_lt G
  have HG := Aside0.mk G
  clear G
  have n0 := Aside0.mk (below_step (by repeat (first | (with_reducible first | exact HB.out | apply below_alloc | apply pw_below_drewN | apply below_drew1) | refine below_set ?_ (by omega))) hb1)
  clear HB hb1
  have HB := n0
  clear n0
  go_wp2
  exact bodyPost_ret (v := .agg #[.int .i64 0, .int .i64 0, .int .i64 0, .int .i64 0, .int .i64 hi, .bool false]) (by simp [results, Try.results18, go_sem, *]) rfl ⟨rfl, by repeat (first | (with_reducible first | exact HB.out | apply below_alloc | apply pw_below_drewN | apply below_drew1) | refine below_set ?_ (by omega))⟩

set_option maxRecDepth 100000 in
set_option maxHeartbeats 4000000 in
theorem back_i (v d s u st s0 s1 s2 s3 p q r i : Int) (w : World) (hok : okB v d s u st s0 s1 s2 s3 p q r = true) (hi1 : decide (i < 0) = false) (hi2 : (i == 0) = false) : Calls Try.prog 18 #[.agg #[.int .i64 v, .int .i64 d, .int .i64 s, .int .i64 u, .int .i64 st, .int .i64 s0, .int .i64 s1, .int .i64 s2, .int .i64 s3, .int .i64 p, .int .i64 q, .int .i64 r], .int .i64 i] w fun e w' => e = .returned (.agg #[.int .i64 i, .int .i64 d, .int .i64 d, .int .i64 (lowV d u), .int .i64 (highV d s), .bool false]) ∧ Below w.heap.size w w' := by
  have HB := Aside0.mk (Below.refl w.heap.size w)
  obtain ⟨lo, hlo⟩ : ∃ n, lowV d u = n := ⟨_, rfl⟩
  obtain ⟨hi, hhi⟩ : ∃ n, highV d s = n := ⟨_, rfl⟩
  rw [hlo, hhi]
  have H2 := Aside0.mk hlo
  have H3 := Aside0.mk hhi
  clear hlo hhi
  have HI1 := Aside0.mk hi1
  have HI2 := Aside0.mk hi2
  clear hi1 hi2
  go_enter Try.func18, Try.ntmps18
  go_wp2_with fail
  refine (right_q v d s u st s0 s1 s2 s3 p q r _).mono ?_
  rw [hok]
  rintro e w1 ⟨rfl, hb1⟩
  have D : IsBlk w1 (w.heap.size) #[.int .i64 v, .int .i64 d, .int .i64 s, .int .i64 u, .int .i64 st, .int .i64 s0, .int .i64 s1, .int .i64 s2, .int .i64 s3, .int .i64 p, .int .i64 q, .int .i64 r] 24 := IsBlk.below (by repeat (first | ((refine IsBlk.new _ _ ?_); (simp; done)) | apply IsBlk.alloc | apply IsBlk.drewN)) hb1
  have D_0 := blk_cell D 0
  have D_1 := blk_cell D 1
  have D_2 := blk_cell D 2
  have D_3 := blk_cell D 3
  have D_4 := blk_cell D 4
  have D_5 := blk_cell D 5
  have D_6 := blk_cell D 6
  have D_7 := blk_cell D 7
  have D_8 := blk_cell D 8
  have D_9 := blk_cell D 9
  have D_10 := blk_cell D 10
  have D_11 := blk_cell D 11
  simp only [List.getElem?_toArray, List.getElem?_cons_zero, List.getElem?_cons_succ] at D_0 D_1 D_2 D_3 D_4 D_5 D_6 D_7 D_8 D_9 D_10 D_11
  have D_z0 := blk_frozen D 0
  have D_z1 := blk_frozen D 1
  have D_z2 := blk_frozen D 2
  have D_z3 := blk_frozen D 3
  have D_z4 := blk_frozen D 4
  have D_z5 := blk_frozen D 5
  have D_z6 := blk_frozen D 6
  have D_z7 := blk_frozen D 7
  have D_z8 := blk_frozen D 8
  have D_z9 := blk_frozen D 9
  have D_z10 := blk_frozen D 10
  have D_z11 := blk_frozen D 11
  have D_l := blk_lt D
  have HD := Aside0.mk D
  clear D
  have R : IsBlk w1 (w.heap.size + 1) #[.int .i64 0, .int .i64 0, .int .i64 0, .int .i64 0, .int .i64 0, .bool false] 29 := IsBlk.below (by repeat (first | ((refine IsBlk.new _ _ ?_); (simp; done)) | apply IsBlk.alloc | apply IsBlk.drewN)) hb1
  have R_0 := blk_cell R 0
  have R_1 := blk_cell R 1
  have R_2 := blk_cell R 2
  have R_3 := blk_cell R 3
  have R_4 := blk_cell R 4
  have R_5 := blk_cell R 5
  simp only [List.getElem?_toArray, List.getElem?_cons_zero, List.getElem?_cons_succ] at R_0 R_1 R_2 R_3 R_4 R_5
  have R_z0 := blk_frozen R 0
  have R_z1 := blk_frozen R 1
  have R_z2 := blk_frozen R 2
  have R_z3 := blk_frozen R 3
  have R_z4 := blk_frozen R 4
  have R_z5 := blk_frozen R 5
  have R_l := blk_lt R
  have HR := Aside0.mk R
  clear R
  have G : IsBlk w1 (w.heap.size + 2) #[.int .i64 0, .int .i64 0, .int .i64 0, .int .i64 0, .int .i64 0, .bool false] 29 := IsBlk.below (by repeat (first | ((refine IsBlk.new _ _ ?_); (simp; done)) | apply IsBlk.alloc | apply IsBlk.drewN)) hb1
  have G_0 := blk_cell G 0
  have G_1 := blk_cell G 1
  have G_2 := blk_cell G 2
  have G_3 := blk_cell G 3
  have G_4 := blk_cell G 4
  have G_5 := blk_cell G 5
  simp only [List.getElem?_toArray, List.getElem?_cons_zero, List.getElem?_cons_succ] at G_0 G_1 G_2 G_3 G_4 G_5
  have G_z0 := blk_frozen G 0
  have G_z1 := blk_frozen G 1
  have G_z2 := blk_frozen G 2
  have G_z3 := blk_frozen G 3
  have G_z4 := blk_frozen G 4
  have G_z5 := blk_frozen G 5
  have G_l := blk_lt G
  have HG := Aside0.mk G
  clear G
  have n0 := Aside0.mk (below_step (by repeat (first | (with_reducible first | exact HB.out | apply below_alloc | apply pw_below_drewN | apply below_drew1) | refine below_set ?_ (by omega))) hb1)
  clear HB hb1
  have HB := n0
  clear n0
  have hi1 := HI1.out
  go_wp2_with fail
  refine (budget_q v d s u st s0 s1 s2 s3 p q r _).mono ?_
  rw [H2.out, H3.out]
  rintro e w2 ⟨rfl, hb1⟩
  have D' := IsBlk.below (by repeat (with_reducible first | exact HD.out | apply IsBlk.alloc | apply IsBlk.drewN | apply IsBlk.drew)) hb1
  clear D_0 D_1 D_2 D_3 D_4 D_5 D_6 D_7 D_8 D_9 D_10 D_11 D_z0 D_z1 D_z2 D_z3 D_z4 D_z5 D_z6 D_z7 D_z8 D_z9 D_z10 D_z11 D_l HD
  have D := D'
  clear D'
  have D_0 := blk_cell D 0
  have D_1 := blk_cell D 1
  have D_2 := blk_cell D 2
  have D_3 := blk_cell D 3
  have D_4 := blk_cell D 4
  have D_5 := blk_cell D 5
  have D_6 := blk_cell D 6
  have D_7 := blk_cell D 7
  have D_8 := blk_cell D 8
  have D_9 := blk_cell D 9
  have D_10 := blk_cell D 10
  have D_11 := blk_cell D 11
  simp only [List.getElem?_toArray, List.getElem?_cons_zero, List.getElem?_cons_succ] at D_0 D_1 D_2 D_3 D_4 D_5 D_6 D_7 D_8 D_9 D_10 D_11
  have D_z0 := blk_frozen D 0
  have D_z1 := blk_frozen D 1
  have D_z2 := blk_frozen D 2
  have D_z3 := blk_frozen D 3
  have D_z4 := blk_frozen D 4
  have D_z5 := blk_frozen D 5
  have D_z6 := blk_frozen D 6
  have D_z7 := blk_frozen D 7
  have D_z8 := blk_frozen D 8
  have D_z9 := blk_frozen D 9
  have D_z10 := blk_frozen D 10
  have D_z11 := blk_frozen D 11
  have D_l := blk_lt D
  have HD := Aside0.mk D
  clear D
  have R' := IsBlk.below (by repeat (with_reducible first | exact HR.out | apply IsBlk.alloc | apply IsBlk.drewN | apply IsBlk.drew)) hb1
  clear R_0 R_1 R_2 R_3 R_4 R_5 R_z0 R_z1 R_z2 R_z3 R_z4 R_z5 R_l HR
  have R := R'
  clear R'
  have R_0 := blk_cell R 0
  have R_1 := blk_cell R 1
  have R_2 := blk_cell R 2
  have R_3 := blk_cell R 3
  have R_4 := blk_cell R 4
  have R_5 := blk_cell R 5
  simp only [List.getElem?_toArray, List.getElem?_cons_zero, List.getElem?_cons_succ] at R_0 R_1 R_2 R_3 R_4 R_5
  have R_z0 := blk_frozen R 0
  have R_z1 := blk_frozen R 1
  have R_z2 := blk_frozen R 2
  have R_z3 := blk_frozen R 3
  have R_z4 := blk_frozen R 4
  have R_z5 := blk_frozen R 5
  have R_l := blk_lt R
  have HR := Aside0.mk R
  clear R
  have G' := IsBlk.below (by repeat (with_reducible first | exact HG.out | apply IsBlk.alloc | apply IsBlk.drewN | apply IsBlk.drew)) hb1
  clear G_0 G_1 G_2 G_3 G_4 G_5 G_z0 G_z1 G_z2 G_z3 G_z4 G_z5 G_l HG
  have G := G'
  clear G'
  have G_0 := blk_cell G 0
  have G_1 := blk_cell G 1
  have G_2 := blk_cell G 2
  have G_3 := blk_cell G 3
  have G_4 := blk_cell G 4
  have G_5 := blk_cell G 5
  simp only [List.getElem?_toArray, List.getElem?_cons_zero, List.getElem?_cons_succ] at G_0 G_1 G_2 G_3 G_4 G_5
  have G_z0 := blk_frozen G 0
  have G_z1 := blk_frozen G 1
  have G_z2 := blk_frozen G 2
  have G_z3 := blk_frozen G 3
  have G_z4 := blk_frozen G 4
  have G_z5 := blk_frozen G 5
  have G_l := blk_lt G
  have HG := Aside0.mk G
  clear G
  have n0 := Aside0.mk (below_step (by repeat (first | (with_reducible first | exact HB.out | apply below_alloc | apply pw_below_drewN | apply below_drew1) | refine below_set ?_ (by omega))) hb1)
  clear HB hb1
  have HB := n0
  clear n0
  have hi2 := HI2.out
  go_wp2_with fail
  go_region
  all_goals
    go_wp2
    exact bodyPost_ret (v := .agg #[.int .i64 i, .int .i64 d, .int .i64 d, .int .i64 lo, .int .i64 hi, .bool false]) (by simp [results, Try.results18, go_sem, *]) rfl ⟨rfl, by repeat (first | (with_reducible first | exact HB.out | apply below_alloc | apply pw_below_drewN | apply below_drew1) | refine below_set ?_ (by omega))⟩
end Go.Proofs.Ytloljhopccpeeaa.B6
