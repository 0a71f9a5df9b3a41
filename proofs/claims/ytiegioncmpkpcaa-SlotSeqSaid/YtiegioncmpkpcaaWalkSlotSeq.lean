/-
  Proved here: SlotSeq answers true, of any slot, version and number. No condition.
-/
import Derived.Test.YtiegioncmpkpcaaS5
namespace Go.Proofs.Ytiegioncmpkpcaa.WalkSlotSeq
open Go.RowKit Go.Proofs.Ytiegioncmpkpcaa.S0 Go.Proofs.Ytiegioncmpkpcaa.S1 Go.Proofs.Ytiegioncmpkpcaa.S2 Go.Proofs.Ytiegioncmpkpcaa.S3 Go.Proofs.Ytiegioncmpkpcaa.S4 Go.Proofs.Ytiegioncmpkpcaa.S5 Go.Proofs.YtiegioncmpkpcaaW.PrintWords Go.Proofs.YtiegioncmpkpcaaW.PrintLast Go.Proofs.YtiegioncmpkpcaaW.PrintMore
set_option linter.unusedVariables false
set_option linter.unusedSimpArgs false

set_option maxHeartbeats 4000000 in
theorem no1 (a b c d v q x0 x1 x2 x3 : Int) (w : World) (e_X : good ⟨a, b, c, d⟩ = ⟨x0, x1, x2, x3⟩) (e_Y : wants ⟨x0, x1, x2, x3⟩ v q = (⟨x0, x1, x2, x3⟩, false)) (h1 : decide (q ≤ x3) = true) : Calls Try.prog 3 #[sv ⟨a, b, c, d⟩, .int .i64 v, .int .i64 q] w fun e w' => e = .returned (.bool true) ∧ Below w.heap.size w w' := by
  have HX := Aside0.mk e_X
  clear e_X
  have HY := Aside0.mk e_Y
  clear e_Y
  unfold sv
  have HB := Aside0.mk (Below.refl w.heap.size w)
  go_enter Try.func3, Try.ntmps3
  go_wp2_with fail
  refine (lives_any _).mono ?_
  rintro e w1 ⟨rfl, hb1⟩
  have s1_0 : IsB w1 (w.heap.size) 23 a b c d := IsB.below (by repeat (first | ((refine isB_at _ _ _ _ _ ?_); (simp; done)) | apply IsB.alloc)) hb1
  have cs1_0_0 := blk_cell s1_0 0
  have cs1_0_1 := blk_cell s1_0 1
  have cs1_0_2 := blk_cell s1_0 2
  have cs1_0_3 := blk_cell s1_0 3
  simp only [List.getElem?_toArray, List.getElem?_cons_zero, List.getElem?_cons_succ] at cs1_0_0 cs1_0_1 cs1_0_2 cs1_0_3
  have ls1_0 := blk_lt s1_0
  have Hs1_0 := Aside0.mk s1_0; clear s1_0
  have n0 := Aside0.mk (below_step (by repeat (first | (with_reducible first | exact HB.out | apply below_alloc | apply pw_below_drewN) | refine below_set ?_ (by omega))) hb1)
  clear HB hb1
  have HB := n0; clear n0
  go_wp2_with fail
  refine (good_any ⟨a, b, c, d⟩ _).mono ?_
  rintro e w2 ⟨rfl, hb2⟩
  have s2_0 : IsB w2 (w.heap.size) 23 a b c d := IsB.below (by repeat (with_reducible first | exact Hs1_0.out | apply IsB.alloc | apply IsB.drewN)) hb2
  have cs2_0_0 := blk_cell s2_0 0
  have cs2_0_1 := blk_cell s2_0 1
  have cs2_0_2 := blk_cell s2_0 2
  have cs2_0_3 := blk_cell s2_0 3
  simp only [List.getElem?_toArray, List.getElem?_cons_zero, List.getElem?_cons_succ] at cs2_0_0 cs2_0_1 cs2_0_2 cs2_0_3
  have ls2_0 := blk_lt s2_0
  have Hs2_0 := Aside0.mk s2_0; clear s2_0
  clear ls1_0 cs1_0_0 cs1_0_1 cs1_0_2 cs1_0_3
  have n0 := Aside0.mk (below_step (by repeat (first | (with_reducible first | exact HB.out | apply below_alloc | apply pw_below_drewN) | refine below_set ?_ (by omega))) hb2)
  clear HB hb2
  have HB := n0; clear n0
  rw [HX.out]
  dsimp only [sv]
  go_wp2_with fail
  refine (want_any ⟨x0, x1, x2, x3⟩ v q _).mono ?_
  rintro e w3 ⟨rfl, hb3⟩
  have s3_0 : IsB w3 (w.heap.size) 23 a b c d := IsB.below (by repeat (with_reducible first | exact Hs2_0.out | apply IsB.alloc | apply IsB.drewN)) hb3
  have cs3_0_0 := blk_cell s3_0 0
  have cs3_0_1 := blk_cell s3_0 1
  have cs3_0_2 := blk_cell s3_0 2
  have cs3_0_3 := blk_cell s3_0 3
  simp only [List.getElem?_toArray, List.getElem?_cons_zero, List.getElem?_cons_succ] at cs3_0_0 cs3_0_1 cs3_0_2 cs3_0_3
  have ls3_0 := blk_lt s3_0
  have Hs3_0 := Aside0.mk s3_0; clear s3_0
  clear ls2_0 cs2_0_0 cs2_0_1 cs2_0_2 cs2_0_3
  have s3_1 : IsB w3 (w2.heap.size) 25 x0 x1 x2 x3 := IsB.below (by repeat (first | ((refine isB_at _ _ _ _ _ ?_); (simp; done)) | apply IsB.alloc)) hb3
  have cs3_1_0 := blk_cell s3_1 0
  have cs3_1_1 := blk_cell s3_1 1
  have cs3_1_2 := blk_cell s3_1 2
  have cs3_1_3 := blk_cell s3_1 3
  simp only [List.getElem?_toArray, List.getElem?_cons_zero, List.getElem?_cons_succ] at cs3_1_0 cs3_1_1 cs3_1_2 cs3_1_3
  have ls3_1 := blk_lt s3_1
  have Hs3_1 := Aside0.mk s3_1; clear s3_1
  have n0 := Aside0.mk (below_step (by repeat (first | (with_reducible first | exact HB.out | apply below_alloc | apply pw_below_drewN) | refine below_set ?_ (by omega))) hb3)
  clear HB hb3
  have HB := n0; clear n0
  rw [HY.out]
  dsimp only [sv]
  go_wp2
  go_ret
  exact ⟨rfl, by repeat (first | (with_reducible first | exact HB.out | apply below_alloc | apply pw_below_drewN) | refine below_set ?_ (by omega))⟩

set_option maxHeartbeats 4000000 in
theorem no2 (a b c d v q x0 x1 x2 x3 : Int) (w : World) (e_X : good ⟨a, b, c, d⟩ = ⟨x0, x1, x2, x3⟩) (e_Y : wants ⟨x0, x1, x2, x3⟩ v q = (⟨x0, x1, x2, x3⟩, false)) (h1 : decide (q ≤ x3) = false) (h2 : decide (v < 0) = true) : Calls Try.prog 3 #[sv ⟨a, b, c, d⟩, .int .i64 v, .int .i64 q] w fun e w' => e = .returned (.bool true) ∧ Below w.heap.size w w' := by
  have HX := Aside0.mk e_X
  clear e_X
  have HY := Aside0.mk e_Y
  clear e_Y
  unfold sv
  have HB := Aside0.mk (Below.refl w.heap.size w)
  go_enter Try.func3, Try.ntmps3
  go_wp2_with fail
  refine (lives_any _).mono ?_
  rintro e w1 ⟨rfl, hb1⟩
  have s1_0 : IsB w1 (w.heap.size) 23 a b c d := IsB.below (by repeat (first | ((refine isB_at _ _ _ _ _ ?_); (simp; done)) | apply IsB.alloc)) hb1
  have cs1_0_0 := blk_cell s1_0 0
  have cs1_0_1 := blk_cell s1_0 1
  have cs1_0_2 := blk_cell s1_0 2
  have cs1_0_3 := blk_cell s1_0 3
  simp only [List.getElem?_toArray, List.getElem?_cons_zero, List.getElem?_cons_succ] at cs1_0_0 cs1_0_1 cs1_0_2 cs1_0_3
  have ls1_0 := blk_lt s1_0
  have Hs1_0 := Aside0.mk s1_0; clear s1_0
  have n0 := Aside0.mk (below_step (by repeat (first | (with_reducible first | exact HB.out | apply below_alloc | apply pw_below_drewN) | refine below_set ?_ (by omega))) hb1)
  clear HB hb1
  have HB := n0; clear n0
  go_wp2_with fail
  refine (good_any ⟨a, b, c, d⟩ _).mono ?_
  rintro e w2 ⟨rfl, hb2⟩
  have s2_0 : IsB w2 (w.heap.size) 23 a b c d := IsB.below (by repeat (with_reducible first | exact Hs1_0.out | apply IsB.alloc | apply IsB.drewN)) hb2
  have cs2_0_0 := blk_cell s2_0 0
  have cs2_0_1 := blk_cell s2_0 1
  have cs2_0_2 := blk_cell s2_0 2
  have cs2_0_3 := blk_cell s2_0 3
  simp only [List.getElem?_toArray, List.getElem?_cons_zero, List.getElem?_cons_succ] at cs2_0_0 cs2_0_1 cs2_0_2 cs2_0_3
  have ls2_0 := blk_lt s2_0
  have Hs2_0 := Aside0.mk s2_0; clear s2_0
  clear ls1_0 cs1_0_0 cs1_0_1 cs1_0_2 cs1_0_3
  have n0 := Aside0.mk (below_step (by repeat (first | (with_reducible first | exact HB.out | apply below_alloc | apply pw_below_drewN) | refine below_set ?_ (by omega))) hb2)
  clear HB hb2
  have HB := n0; clear n0
  rw [HX.out]
  dsimp only [sv]
  go_wp2_with fail
  refine (want_any ⟨x0, x1, x2, x3⟩ v q _).mono ?_
  rintro e w3 ⟨rfl, hb3⟩
  have s3_0 : IsB w3 (w.heap.size) 23 a b c d := IsB.below (by repeat (with_reducible first | exact Hs2_0.out | apply IsB.alloc | apply IsB.drewN)) hb3
  have cs3_0_0 := blk_cell s3_0 0
  have cs3_0_1 := blk_cell s3_0 1
  have cs3_0_2 := blk_cell s3_0 2
  have cs3_0_3 := blk_cell s3_0 3
  simp only [List.getElem?_toArray, List.getElem?_cons_zero, List.getElem?_cons_succ] at cs3_0_0 cs3_0_1 cs3_0_2 cs3_0_3
  have ls3_0 := blk_lt s3_0
  have Hs3_0 := Aside0.mk s3_0; clear s3_0
  clear ls2_0 cs2_0_0 cs2_0_1 cs2_0_2 cs2_0_3
  have s3_1 : IsB w3 (w2.heap.size) 25 x0 x1 x2 x3 := IsB.below (by repeat (first | ((refine isB_at _ _ _ _ _ ?_); (simp; done)) | apply IsB.alloc)) hb3
  have cs3_1_0 := blk_cell s3_1 0
  have cs3_1_1 := blk_cell s3_1 1
  have cs3_1_2 := blk_cell s3_1 2
  have cs3_1_3 := blk_cell s3_1 3
  simp only [List.getElem?_toArray, List.getElem?_cons_zero, List.getElem?_cons_succ] at cs3_1_0 cs3_1_1 cs3_1_2 cs3_1_3
  have ls3_1 := blk_lt s3_1
  have Hs3_1 := Aside0.mk s3_1; clear s3_1
  have n0 := Aside0.mk (below_step (by repeat (first | (with_reducible first | exact HB.out | apply below_alloc | apply pw_below_drewN) | refine below_set ?_ (by omega))) hb3)
  clear HB hb3
  have HB := n0; clear n0
  rw [HY.out]
  dsimp only [sv]
  go_wp2
  go_ret
  exact ⟨rfl, by repeat (first | (with_reducible first | exact HB.out | apply below_alloc | apply pw_below_drewN) | refine below_set ?_ (by omega))⟩

set_option maxHeartbeats 4000000 in
theorem yes1 (a b c d v q x0 x1 x2 x3 y0 : Int) (w : World) (e_X : good ⟨a, b, c, d⟩ = ⟨x0, x1, x2, x3⟩) (e_Y : wants ⟨x0, x1, x2, x3⟩ v q = (⟨y0, x1, v, q⟩, true)) (e_Z : wants ⟨y0, x1, v, q⟩ v q = (⟨y0, x1, v, q⟩, false)) (h1 : decide (x3 < q) = true) (h2 : (y0 == x0) = true) : Calls Try.prog 3 #[sv ⟨a, b, c, d⟩, .int .i64 v, .int .i64 q] w fun e w' => e = .returned (.bool true) ∧ Below w.heap.size w w' := by
  have HX := Aside0.mk e_X
  clear e_X
  have HY := Aside0.mk e_Y
  clear e_Y
  have HZ := Aside0.mk e_Z
  clear e_Z
  unfold sv
  have HB := Aside0.mk (Below.refl w.heap.size w)
  go_enter Try.func3, Try.ntmps3
  go_wp2_with fail
  refine (lives_any _).mono ?_
  rintro e w1 ⟨rfl, hb1⟩
  have s1_0 : IsB w1 (w.heap.size) 23 a b c d := IsB.below (by repeat (first | ((refine isB_at _ _ _ _ _ ?_); (simp; done)) | apply IsB.alloc)) hb1
  have cs1_0_0 := blk_cell s1_0 0
  have cs1_0_1 := blk_cell s1_0 1
  have cs1_0_2 := blk_cell s1_0 2
  have cs1_0_3 := blk_cell s1_0 3
  simp only [List.getElem?_toArray, List.getElem?_cons_zero, List.getElem?_cons_succ] at cs1_0_0 cs1_0_1 cs1_0_2 cs1_0_3
  have ls1_0 := blk_lt s1_0
  have Hs1_0 := Aside0.mk s1_0; clear s1_0
  have n0 := Aside0.mk (below_step (by repeat (first | (with_reducible first | exact HB.out | apply below_alloc | apply pw_below_drewN) | refine below_set ?_ (by omega))) hb1)
  clear HB hb1
  have HB := n0; clear n0
  go_wp2_with fail
  refine (good_any ⟨a, b, c, d⟩ _).mono ?_
  rintro e w2 ⟨rfl, hb2⟩
  have s2_0 : IsB w2 (w.heap.size) 23 a b c d := IsB.below (by repeat (with_reducible first | exact Hs1_0.out | apply IsB.alloc | apply IsB.drewN)) hb2
  have cs2_0_0 := blk_cell s2_0 0
  have cs2_0_1 := blk_cell s2_0 1
  have cs2_0_2 := blk_cell s2_0 2
  have cs2_0_3 := blk_cell s2_0 3
  simp only [List.getElem?_toArray, List.getElem?_cons_zero, List.getElem?_cons_succ] at cs2_0_0 cs2_0_1 cs2_0_2 cs2_0_3
  have ls2_0 := blk_lt s2_0
  have Hs2_0 := Aside0.mk s2_0; clear s2_0
  clear ls1_0 cs1_0_0 cs1_0_1 cs1_0_2 cs1_0_3
  have n0 := Aside0.mk (below_step (by repeat (first | (with_reducible first | exact HB.out | apply below_alloc | apply pw_below_drewN) | refine below_set ?_ (by omega))) hb2)
  clear HB hb2
  have HB := n0; clear n0
  rw [HX.out]
  dsimp only [sv]
  go_wp2_with fail
  refine (want_any ⟨x0, x1, x2, x3⟩ v q _).mono ?_
  rintro e w3 ⟨rfl, hb3⟩
  have s3_0 : IsB w3 (w.heap.size) 23 a b c d := IsB.below (by repeat (with_reducible first | exact Hs2_0.out | apply IsB.alloc | apply IsB.drewN)) hb3
  have cs3_0_0 := blk_cell s3_0 0
  have cs3_0_1 := blk_cell s3_0 1
  have cs3_0_2 := blk_cell s3_0 2
  have cs3_0_3 := blk_cell s3_0 3
  simp only [List.getElem?_toArray, List.getElem?_cons_zero, List.getElem?_cons_succ] at cs3_0_0 cs3_0_1 cs3_0_2 cs3_0_3
  have ls3_0 := blk_lt s3_0
  have Hs3_0 := Aside0.mk s3_0; clear s3_0
  clear ls2_0 cs2_0_0 cs2_0_1 cs2_0_2 cs2_0_3
  have s3_1 : IsB w3 (w2.heap.size) 25 x0 x1 x2 x3 := IsB.below (by repeat (first | ((refine isB_at _ _ _ _ _ ?_); (simp; done)) | apply IsB.alloc)) hb3
  have cs3_1_0 := blk_cell s3_1 0
  have cs3_1_1 := blk_cell s3_1 1
  have cs3_1_2 := blk_cell s3_1 2
  have cs3_1_3 := blk_cell s3_1 3
  simp only [List.getElem?_toArray, List.getElem?_cons_zero, List.getElem?_cons_succ] at cs3_1_0 cs3_1_1 cs3_1_2 cs3_1_3
  have ls3_1 := blk_lt s3_1
  have Hs3_1 := Aside0.mk s3_1; clear s3_1
  have n0 := Aside0.mk (below_step (by repeat (first | (with_reducible first | exact HB.out | apply below_alloc | apply pw_below_drewN) | refine below_set ?_ (by omega))) hb3)
  clear HB hb3
  have HB := n0; clear n0
  rw [HY.out]
  dsimp only [sv]
  go_wp2_with fail
  refine (want_any ⟨y0, x1, v, q⟩ v q _).mono ?_
  rintro e w4 ⟨rfl, hb4⟩
  have s4_0 : IsB w4 (w.heap.size) 23 a b c d := IsB.below (by repeat (with_reducible first | exact Hs3_0.out | apply IsB.alloc | apply IsB.drewN)) hb4
  have cs4_0_0 := blk_cell s4_0 0
  have cs4_0_1 := blk_cell s4_0 1
  have cs4_0_2 := blk_cell s4_0 2
  have cs4_0_3 := blk_cell s4_0 3
  simp only [List.getElem?_toArray, List.getElem?_cons_zero, List.getElem?_cons_succ] at cs4_0_0 cs4_0_1 cs4_0_2 cs4_0_3
  have ls4_0 := blk_lt s4_0
  have Hs4_0 := Aside0.mk s4_0; clear s4_0
  clear ls3_0 cs3_0_0 cs3_0_1 cs3_0_2 cs3_0_3
  have s4_1 : IsB w4 (w2.heap.size) 25 x0 x1 x2 x3 := IsB.below (by repeat (with_reducible first | exact Hs3_1.out | apply IsB.alloc | apply IsB.drewN)) hb4
  have cs4_1_0 := blk_cell s4_1 0
  have cs4_1_1 := blk_cell s4_1 1
  have cs4_1_2 := blk_cell s4_1 2
  have cs4_1_3 := blk_cell s4_1 3
  simp only [List.getElem?_toArray, List.getElem?_cons_zero, List.getElem?_cons_succ] at cs4_1_0 cs4_1_1 cs4_1_2 cs4_1_3
  have ls4_1 := blk_lt s4_1
  have Hs4_1 := Aside0.mk s4_1; clear s4_1
  clear ls3_1 cs3_1_0 cs3_1_1 cs3_1_2 cs3_1_3
  have s4_2 : IsB w4 (w3.heap.size) 25 y0 x1 v q := IsB.below (by repeat (first | ((refine isB_at _ _ _ _ _ ?_); (simp; done)) | apply IsB.alloc)) hb4
  have cs4_2_0 := blk_cell s4_2 0
  have cs4_2_1 := blk_cell s4_2 1
  have cs4_2_2 := blk_cell s4_2 2
  have cs4_2_3 := blk_cell s4_2 3
  simp only [List.getElem?_toArray, List.getElem?_cons_zero, List.getElem?_cons_succ] at cs4_2_0 cs4_2_1 cs4_2_2 cs4_2_3
  have ls4_2 := blk_lt s4_2
  have Hs4_2 := Aside0.mk s4_2; clear s4_2
  have n0 := Aside0.mk (below_step (by repeat (first | (with_reducible first | exact HB.out | apply below_alloc | apply pw_below_drewN) | refine below_set ?_ (by omega))) hb4)
  clear HB hb4
  have HB := n0; clear n0
  rw [HZ.out]
  dsimp only [sv]
  go_wp2
  go_ret
  exact ⟨rfl, by repeat (first | (with_reducible first | exact HB.out | apply below_alloc | apply pw_below_drewN) | refine below_set ?_ (by omega))⟩

set_option maxHeartbeats 4000000 in
theorem yes2 (a b c d v q x0 x1 x2 x3 y0 : Int) (w : World) (e_X : good ⟨a, b, c, d⟩ = ⟨x0, x1, x2, x3⟩) (e_Y : wants ⟨x0, x1, x2, x3⟩ v q = (⟨y0, x1, v, q⟩, true)) (e_Z : wants ⟨y0, x1, v, q⟩ v q = (⟨y0, x1, v, q⟩, false)) (h1 : decide (x3 < q) = true) (h2 : (y0 == x0) = false) (h3 : (y0 == 4) = true) (h4 : (x1 != v) = true) : Calls Try.prog 3 #[sv ⟨a, b, c, d⟩, .int .i64 v, .int .i64 q] w fun e w' => e = .returned (.bool true) ∧ Below w.heap.size w w' := by
  have HX := Aside0.mk e_X
  clear e_X
  have HY := Aside0.mk e_Y
  clear e_Y
  have HZ := Aside0.mk e_Z
  clear e_Z
  unfold sv
  have HB := Aside0.mk (Below.refl w.heap.size w)
  go_enter Try.func3, Try.ntmps3
  go_wp2_with fail
  refine (lives_any _).mono ?_
  rintro e w1 ⟨rfl, hb1⟩
  have s1_0 : IsB w1 (w.heap.size) 23 a b c d := IsB.below (by repeat (first | ((refine isB_at _ _ _ _ _ ?_); (simp; done)) | apply IsB.alloc)) hb1
  have cs1_0_0 := blk_cell s1_0 0
  have cs1_0_1 := blk_cell s1_0 1
  have cs1_0_2 := blk_cell s1_0 2
  have cs1_0_3 := blk_cell s1_0 3
  simp only [List.getElem?_toArray, List.getElem?_cons_zero, List.getElem?_cons_succ] at cs1_0_0 cs1_0_1 cs1_0_2 cs1_0_3
  have ls1_0 := blk_lt s1_0
  have Hs1_0 := Aside0.mk s1_0; clear s1_0
  have n0 := Aside0.mk (below_step (by repeat (first | (with_reducible first | exact HB.out | apply below_alloc | apply pw_below_drewN) | refine below_set ?_ (by omega))) hb1)
  clear HB hb1
  have HB := n0; clear n0
  go_wp2_with fail
  refine (good_any ⟨a, b, c, d⟩ _).mono ?_
  rintro e w2 ⟨rfl, hb2⟩
  have s2_0 : IsB w2 (w.heap.size) 23 a b c d := IsB.below (by repeat (with_reducible first | exact Hs1_0.out | apply IsB.alloc | apply IsB.drewN)) hb2
  have cs2_0_0 := blk_cell s2_0 0
  have cs2_0_1 := blk_cell s2_0 1
  have cs2_0_2 := blk_cell s2_0 2
  have cs2_0_3 := blk_cell s2_0 3
  simp only [List.getElem?_toArray, List.getElem?_cons_zero, List.getElem?_cons_succ] at cs2_0_0 cs2_0_1 cs2_0_2 cs2_0_3
  have ls2_0 := blk_lt s2_0
  have Hs2_0 := Aside0.mk s2_0; clear s2_0
  clear ls1_0 cs1_0_0 cs1_0_1 cs1_0_2 cs1_0_3
  have n0 := Aside0.mk (below_step (by repeat (first | (with_reducible first | exact HB.out | apply below_alloc | apply pw_below_drewN) | refine below_set ?_ (by omega))) hb2)
  clear HB hb2
  have HB := n0; clear n0
  rw [HX.out]
  dsimp only [sv]
  go_wp2_with fail
  refine (want_any ⟨x0, x1, x2, x3⟩ v q _).mono ?_
  rintro e w3 ⟨rfl, hb3⟩
  have s3_0 : IsB w3 (w.heap.size) 23 a b c d := IsB.below (by repeat (with_reducible first | exact Hs2_0.out | apply IsB.alloc | apply IsB.drewN)) hb3
  have cs3_0_0 := blk_cell s3_0 0
  have cs3_0_1 := blk_cell s3_0 1
  have cs3_0_2 := blk_cell s3_0 2
  have cs3_0_3 := blk_cell s3_0 3
  simp only [List.getElem?_toArray, List.getElem?_cons_zero, List.getElem?_cons_succ] at cs3_0_0 cs3_0_1 cs3_0_2 cs3_0_3
  have ls3_0 := blk_lt s3_0
  have Hs3_0 := Aside0.mk s3_0; clear s3_0
  clear ls2_0 cs2_0_0 cs2_0_1 cs2_0_2 cs2_0_3
  have s3_1 : IsB w3 (w2.heap.size) 25 x0 x1 x2 x3 := IsB.below (by repeat (first | ((refine isB_at _ _ _ _ _ ?_); (simp; done)) | apply IsB.alloc)) hb3
  have cs3_1_0 := blk_cell s3_1 0
  have cs3_1_1 := blk_cell s3_1 1
  have cs3_1_2 := blk_cell s3_1 2
  have cs3_1_3 := blk_cell s3_1 3
  simp only [List.getElem?_toArray, List.getElem?_cons_zero, List.getElem?_cons_succ] at cs3_1_0 cs3_1_1 cs3_1_2 cs3_1_3
  have ls3_1 := blk_lt s3_1
  have Hs3_1 := Aside0.mk s3_1; clear s3_1
  have n0 := Aside0.mk (below_step (by repeat (first | (with_reducible first | exact HB.out | apply below_alloc | apply pw_below_drewN) | refine below_set ?_ (by omega))) hb3)
  clear HB hb3
  have HB := n0; clear n0
  rw [HY.out]
  dsimp only [sv]
  go_wp2_with fail
  refine (want_any ⟨y0, x1, v, q⟩ v q _).mono ?_
  rintro e w4 ⟨rfl, hb4⟩
  have s4_0 : IsB w4 (w.heap.size) 23 a b c d := IsB.below (by repeat (with_reducible first | exact Hs3_0.out | apply IsB.alloc | apply IsB.drewN)) hb4
  have cs4_0_0 := blk_cell s4_0 0
  have cs4_0_1 := blk_cell s4_0 1
  have cs4_0_2 := blk_cell s4_0 2
  have cs4_0_3 := blk_cell s4_0 3
  simp only [List.getElem?_toArray, List.getElem?_cons_zero, List.getElem?_cons_succ] at cs4_0_0 cs4_0_1 cs4_0_2 cs4_0_3
  have ls4_0 := blk_lt s4_0
  have Hs4_0 := Aside0.mk s4_0; clear s4_0
  clear ls3_0 cs3_0_0 cs3_0_1 cs3_0_2 cs3_0_3
  have s4_1 : IsB w4 (w2.heap.size) 25 x0 x1 x2 x3 := IsB.below (by repeat (with_reducible first | exact Hs3_1.out | apply IsB.alloc | apply IsB.drewN)) hb4
  have cs4_1_0 := blk_cell s4_1 0
  have cs4_1_1 := blk_cell s4_1 1
  have cs4_1_2 := blk_cell s4_1 2
  have cs4_1_3 := blk_cell s4_1 3
  simp only [List.getElem?_toArray, List.getElem?_cons_zero, List.getElem?_cons_succ] at cs4_1_0 cs4_1_1 cs4_1_2 cs4_1_3
  have ls4_1 := blk_lt s4_1
  have Hs4_1 := Aside0.mk s4_1; clear s4_1
  clear ls3_1 cs3_1_0 cs3_1_1 cs3_1_2 cs3_1_3
  have s4_2 : IsB w4 (w3.heap.size) 25 y0 x1 v q := IsB.below (by repeat (first | ((refine isB_at _ _ _ _ _ ?_); (simp; done)) | apply IsB.alloc)) hb4
  have cs4_2_0 := blk_cell s4_2 0
  have cs4_2_1 := blk_cell s4_2 1
  have cs4_2_2 := blk_cell s4_2 2
  have cs4_2_3 := blk_cell s4_2 3
  simp only [List.getElem?_toArray, List.getElem?_cons_zero, List.getElem?_cons_succ] at cs4_2_0 cs4_2_1 cs4_2_2 cs4_2_3
  have ls4_2 := blk_lt s4_2
  have Hs4_2 := Aside0.mk s4_2; clear s4_2
  have n0 := Aside0.mk (below_step (by repeat (first | (with_reducible first | exact HB.out | apply below_alloc | apply pw_below_drewN) | refine below_set ?_ (by omega))) hb4)
  clear HB hb4
  have HB := n0; clear n0
  rw [HZ.out]
  dsimp only [sv]
  go_wp2
  go_ret
  exact ⟨rfl, by repeat (first | (with_reducible first | exact HB.out | apply below_alloc | apply pw_below_drewN) | refine below_set ?_ (by omega))⟩

theorem walk (a b c d v q : Int) (w : World) (_ : (Lit.int .i64 v).wf = true) (_ : (Lit.int .i64 q).wf = true) : Calls Try.prog 3 #[sv ⟨a, b, c, d⟩, .int .i64 v, .int .i64 q] w fun e w' => e = .returned (.bool true) ∧ Below w.heap.size w w' := by
  obtain ⟨⟨x0, x1, x2, x3⟩, hx⟩ : ∃ x, good ⟨a, b, c, d⟩ = x := ⟨_, rfl⟩
  have hr : right ⟨x0, x1, x2, x3⟩ = true := by rw [← hx]; exact good_right _
  by_cases h : 0 ≤ v ∧ x3 < q
  · have hz : ∀ y0, wants ⟨y0, x1, v, q⟩ v q = (⟨y0, x1, v, q⟩, false) := fun y0 => by unfold wants; rw [if_neg (fun k => by have := k.2.2; simp at this)]
    by_cases h2 : x0 ≠ 0 ∧ x1 ≠ v
    · have hy : wants ⟨x0, x1, x2, x3⟩ v q = (⟨4, x1, v, q⟩, true) := by unfold wants; rw [if_pos ⟨hr, h⟩, if_pos h2]
      by_cases h3 : 4 = x0
      · exact yes1 a b c d v q x0 x1 x2 x3 4 w hx hy (hz 4) (decide_eq_true h.2) (by simp [h3])
      · exact yes2 a b c d v q x0 x1 x2 x3 4 w hx hy (hz 4) (decide_eq_true h.2) (by simp [h3]) rfl (by simp [h2.2])
    · have hy : wants ⟨x0, x1, x2, x3⟩ v q = (⟨x0, x1, v, q⟩, true) := by unfold wants; rw [if_pos ⟨hr, h⟩, if_neg h2]
      exact yes1 a b c d v q x0 x1 x2 x3 x0 w hx hy (hz x0) (decide_eq_true h.2) (by simp)
  · have hy : wants ⟨x0, x1, x2, x3⟩ v q = (⟨x0, x1, x2, x3⟩, false) := by unfold wants; rw [if_neg (fun k => h k.2)]
    by_cases h1 : q ≤ x3
    · exact no1 a b c d v q x0 x1 x2 x3 w hx hy (decide_eq_true h1)
    · exact no2 a b c d v q x0 x1 x2 x3 w hx hy (decide_eq_false h1) (decide_eq_true (by omega))
end Go.Proofs.Ytiegioncmpkpcaa.WalkSlotSeq
