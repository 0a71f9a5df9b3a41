/-
  Proved here: SlotFalls answers true, of any slot. No condition.
-/
import Derived.Test.YtiegioncmpkpcaaS5
namespace Go.Proofs.Ytiegioncmpkpcaa.WalkSlotFalls
open Go.RowKit Go.Proofs.Ytiegioncmpkpcaa.S0 Go.Proofs.Ytiegioncmpkpcaa.S1 Go.Proofs.Ytiegioncmpkpcaa.S2 Go.Proofs.Ytiegioncmpkpcaa.S3 Go.Proofs.Ytiegioncmpkpcaa.S4 Go.Proofs.Ytiegioncmpkpcaa.S5 Go.Proofs.YtiegioncmpkpcaaW.PrintWords Go.Proofs.YtiegioncmpkpcaaW.PrintLast Go.Proofs.YtiegioncmpkpcaaW.PrintMore
set_option linter.unusedVariables false
set_option linter.unusedSimpArgs false

set_option maxHeartbeats 4000000 in
theorem yes (a b c d x0 x1 x2 x3 : Int) (r : Bool) (w : World) (e_X : good ⟨a, b, c, d⟩ = ⟨x0, x1, x2, x3⟩) (e_F : falls ⟨x0, x1, x2, x3⟩ = (⟨0, 0, x2, x3⟩, r)) (e_H : turns ⟨x0, x1, x2, x3⟩ 2 3 = (⟨3, x1, x2, x3⟩, true)) (e_B1 : turns ⟨3, x1, x2, x3⟩ 3 2 = (⟨x0, x1, x2, x3⟩, true)) (h1 : (x0 == 2) = true) : Calls Try.prog 6 #[sv ⟨a, b, c, d⟩] w fun e w' => e = .returned (.bool true) ∧ Below w.heap.size w w' := by
  have HX := Aside0.mk e_X
  clear e_X
  have HF := Aside0.mk e_F
  clear e_F
  have HH := Aside0.mk e_H
  clear e_H
  have HB1 := Aside0.mk e_B1
  clear e_B1
  unfold sv
  have HB := Aside0.mk (Below.refl w.heap.size w)
  go_enter Try.func6, Try.ntmps6
  go_wp2_with fail
  refine (lives_any _).mono ?_
  rintro e w1 ⟨rfl, hb1⟩
  have s1_0 : IsB w1 (w.heap.size) 23 a b c d := IsB.below (by repeat (first | ((refine isB_at _ _ _ _ _ ?_); (simp; done)) | apply IsB.alloc)) hb1
  have cs1_0_0 := blk_cell s1_0 0
  have cs1_0_1 := blk_cell s1_0 1
  have cs1_0_2 := blk_cell s1_0 2
  have cs1_0_3 := blk_cell s1_0 3
  simp only [List.getElem?_toArray, List.getElem?_cons_zero, List.getElem?_cons_succ] at cs1_0_0 cs1_0_1 cs1_0_2 cs1_0_3
  have ls1_0 := blk_lt s1_0
  have Hs1_0 := Aside0.mk s1_0; clear s1_0
  have n0 := Aside0.mk (below_step (by repeat (first | (with_reducible first | exact HB.out | apply below_alloc | apply pw_below_drewN) | refine below_set ?_ (by omega))) hb1)
  clear HB hb1
  have HB := n0; clear n0
  go_wp2_with fail
  refine (good_any ⟨a, b, c, d⟩ _).mono ?_
  rintro e w2 ⟨rfl, hb2⟩
  have s2_0 : IsB w2 (w.heap.size) 23 a b c d := IsB.below (by repeat (with_reducible first | exact Hs1_0.out | apply IsB.alloc | apply IsB.drewN)) hb2
  have cs2_0_0 := blk_cell s2_0 0
  have cs2_0_1 := blk_cell s2_0 1
  have cs2_0_2 := blk_cell s2_0 2
  have cs2_0_3 := blk_cell s2_0 3
  simp only [List.getElem?_toArray, List.getElem?_cons_zero, List.getElem?_cons_succ] at cs2_0_0 cs2_0_1 cs2_0_2 cs2_0_3
  have ls2_0 := blk_lt s2_0
  have Hs2_0 := Aside0.mk s2_0; clear s2_0
  clear ls1_0 cs1_0_0 cs1_0_1 cs1_0_2 cs1_0_3
  have n0 := Aside0.mk (below_step (by repeat (first | (with_reducible first | exact HB.out | apply below_alloc | apply pw_below_drewN) | refine below_set ?_ (by omega))) hb2)
  clear HB hb2
  have HB := n0; clear n0
  rw [HX.out]
  dsimp only [sv]
  go_wp2_with fail
  refine (fall_any ⟨x0, x1, x2, x3⟩ _).mono ?_
  rintro e w3 ⟨rfl, hb3⟩
  have s3_0 : IsB w3 (w.heap.size) 23 a b c d := IsB.below (by repeat (with_reducible first | exact Hs2_0.out | apply IsB.alloc | apply IsB.drewN)) hb3
  have cs3_0_0 := blk_cell s3_0 0
  have cs3_0_1 := blk_cell s3_0 1
  have cs3_0_2 := blk_cell s3_0 2
  have cs3_0_3 := blk_cell s3_0 3
  simp only [List.getElem?_toArray, List.getElem?_cons_zero, List.getElem?_cons_succ] at cs3_0_0 cs3_0_1 cs3_0_2 cs3_0_3
  have ls3_0 := blk_lt s3_0
  have Hs3_0 := Aside0.mk s3_0; clear s3_0
  clear ls2_0 cs2_0_0 cs2_0_1 cs2_0_2 cs2_0_3
  have s3_1 : IsB w3 (w2.heap.size) 25 x0 x1 x2 x3 := IsB.below (by repeat (first | ((refine isB_at _ _ _ _ _ ?_); (simp; done)) | apply IsB.alloc)) hb3
  have cs3_1_0 := blk_cell s3_1 0
  have cs3_1_1 := blk_cell s3_1 1
  have cs3_1_2 := blk_cell s3_1 2
  have cs3_1_3 := blk_cell s3_1 3
  simp only [List.getElem?_toArray, List.getElem?_cons_zero, List.getElem?_cons_succ] at cs3_1_0 cs3_1_1 cs3_1_2 cs3_1_3
  have ls3_1 := blk_lt s3_1
  have Hs3_1 := Aside0.mk s3_1; clear s3_1
  have n0 := Aside0.mk (below_step (by repeat (first | (with_reducible first | exact HB.out | apply below_alloc | apply pw_below_drewN) | refine below_set ?_ (by omega))) hb3)
  clear HB hb3
  have HB := n0; clear n0
  rw [HF.out]
  dsimp only [sv]
  go_wp2_with fail
  refine (hurt_any ⟨x0, x1, x2, x3⟩ _).mono ?_
  rintro e w4 ⟨rfl, hb4⟩
  have s4_0 : IsB w4 (w.heap.size) 23 a b c d := IsB.below (by repeat (with_reducible first | exact Hs3_0.out | apply IsB.alloc | apply IsB.drewN)) hb4
  have cs4_0_0 := blk_cell s4_0 0
  have cs4_0_1 := blk_cell s4_0 1
  have cs4_0_2 := blk_cell s4_0 2
  have cs4_0_3 := blk_cell s4_0 3
  simp only [List.getElem?_toArray, List.getElem?_cons_zero, List.getElem?_cons_succ] at cs4_0_0 cs4_0_1 cs4_0_2 cs4_0_3
  have ls4_0 := blk_lt s4_0
  have Hs4_0 := Aside0.mk s4_0; clear s4_0
  clear ls3_0 cs3_0_0 cs3_0_1 cs3_0_2 cs3_0_3
  have s4_1 : IsB w4 (w2.heap.size) 25 x0 x1 x2 x3 := IsB.below (by repeat (with_reducible first | exact Hs3_1.out | apply IsB.alloc | apply IsB.drewN)) hb4
  have cs4_1_0 := blk_cell s4_1 0
  have cs4_1_1 := blk_cell s4_1 1
  have cs4_1_2 := blk_cell s4_1 2
  have cs4_1_3 := blk_cell s4_1 3
  simp only [List.getElem?_toArray, List.getElem?_cons_zero, List.getElem?_cons_succ] at cs4_1_0 cs4_1_1 cs4_1_2 cs4_1_3
  have ls4_1 := blk_lt s4_1
  have Hs4_1 := Aside0.mk s4_1; clear s4_1
  clear ls3_1 cs3_1_0 cs3_1_1 cs3_1_2 cs3_1_3
  have s4_2 : IsB w4 (w3.heap.size) 25 0 0 x2 x3 := IsB.below (by repeat (first | ((refine isB_at _ _ _ _ _ ?_); (simp; done)) | apply IsB.alloc)) hb4
  have cs4_2_0 := blk_cell s4_2 0
  have cs4_2_1 := blk_cell s4_2 1
  have cs4_2_2 := blk_cell s4_2 2
  have cs4_2_3 := blk_cell s4_2 3
  simp only [List.getElem?_toArray, List.getElem?_cons_zero, List.getElem?_cons_succ] at cs4_2_0 cs4_2_1 cs4_2_2 cs4_2_3
  have ls4_2 := blk_lt s4_2
  have Hs4_2 := Aside0.mk s4_2; clear s4_2
  have n0 := Aside0.mk (below_step (by repeat (first | (with_reducible first | exact HB.out | apply below_alloc | apply pw_below_drewN) | refine below_set ?_ (by omega))) hb4)
  clear HB hb4
  have HB := n0; clear n0
  rw [HH.out]
  dsimp only [sv]
  go_wp2_with fail
  refine (heal_any ⟨3, x1, x2, x3⟩ _).mono ?_
  rintro e w5 ⟨rfl, hb5⟩
  have s5_0 : IsB w5 (w.heap.size) 23 a b c d := IsB.below (by repeat (with_reducible first | exact Hs4_0.out | apply IsB.alloc | apply IsB.drewN)) hb5
  have cs5_0_0 := blk_cell s5_0 0
  have cs5_0_1 := blk_cell s5_0 1
  have cs5_0_2 := blk_cell s5_0 2
  have cs5_0_3 := blk_cell s5_0 3
  simp only [List.getElem?_toArray, List.getElem?_cons_zero, List.getElem?_cons_succ] at cs5_0_0 cs5_0_1 cs5_0_2 cs5_0_3
  have ls5_0 := blk_lt s5_0
  have Hs5_0 := Aside0.mk s5_0; clear s5_0
  clear ls4_0 cs4_0_0 cs4_0_1 cs4_0_2 cs4_0_3
  have s5_1 : IsB w5 (w2.heap.size) 25 x0 x1 x2 x3 := IsB.below (by repeat (with_reducible first | exact Hs4_1.out | apply IsB.alloc | apply IsB.drewN)) hb5
  have cs5_1_0 := blk_cell s5_1 0
  have cs5_1_1 := blk_cell s5_1 1
  have cs5_1_2 := blk_cell s5_1 2
  have cs5_1_3 := blk_cell s5_1 3
  simp only [List.getElem?_toArray, List.getElem?_cons_zero, List.getElem?_cons_succ] at cs5_1_0 cs5_1_1 cs5_1_2 cs5_1_3
  have ls5_1 := blk_lt s5_1
  have Hs5_1 := Aside0.mk s5_1; clear s5_1
  clear ls4_1 cs4_1_0 cs4_1_1 cs4_1_2 cs4_1_3
  have s5_2 : IsB w5 (w3.heap.size) 25 0 0 x2 x3 := IsB.below (by repeat (with_reducible first | exact Hs4_2.out | apply IsB.alloc | apply IsB.drewN)) hb5
  have cs5_2_0 := blk_cell s5_2 0
  have cs5_2_1 := blk_cell s5_2 1
  have cs5_2_2 := blk_cell s5_2 2
  have cs5_2_3 := blk_cell s5_2 3
  simp only [List.getElem?_toArray, List.getElem?_cons_zero, List.getElem?_cons_succ] at cs5_2_0 cs5_2_1 cs5_2_2 cs5_2_3
  have ls5_2 := blk_lt s5_2
  have Hs5_2 := Aside0.mk s5_2; clear s5_2
  clear ls4_2 cs4_2_0 cs4_2_1 cs4_2_2 cs4_2_3
  have s5_3 : IsB w5 (w4.heap.size) 25 3 x1 x2 x3 := IsB.below (by repeat (first | ((refine isB_at _ _ _ _ _ ?_); (simp; done)) | apply IsB.alloc)) hb5
  have cs5_3_0 := blk_cell s5_3 0
  have cs5_3_1 := blk_cell s5_3 1
  have cs5_3_2 := blk_cell s5_3 2
  have cs5_3_3 := blk_cell s5_3 3
  simp only [List.getElem?_toArray, List.getElem?_cons_zero, List.getElem?_cons_succ] at cs5_3_0 cs5_3_1 cs5_3_2 cs5_3_3
  have ls5_3 := blk_lt s5_3
  have Hs5_3 := Aside0.mk s5_3; clear s5_3
  have n0 := Aside0.mk (below_step (by repeat (first | (with_reducible first | exact HB.out | apply below_alloc | apply pw_below_drewN) | refine below_set ?_ (by omega))) hb5)
  clear HB hb5
  have HB := n0; clear n0
  rw [HB1.out]
  dsimp only [sv]
  go_wp2
  go_ret
  exact ⟨rfl, by repeat (first | (with_reducible first | exact HB.out | apply below_alloc | apply pw_below_drewN) | refine below_set ?_ (by omega))⟩

set_option maxHeartbeats 4000000 in
theorem no (a b c d x0 x1 x2 x3 y0 y1 y2 y3 : Int) (r k : Bool) (w : World) (e_X : good ⟨a, b, c, d⟩ = ⟨x0, x1, x2, x3⟩) (e_F : falls ⟨x0, x1, x2, x3⟩ = (⟨0, 0, x2, x3⟩, r)) (e_H : turns ⟨x0, x1, x2, x3⟩ 2 3 = (⟨x0, x1, x2, x3⟩, false)) (e_B1 : turns ⟨x0, x1, x2, x3⟩ 3 2 = (⟨y0, y1, y2, y3⟩, k)) (h1 : (x0 == 2) = false) : Calls Try.prog 6 #[sv ⟨a, b, c, d⟩] w fun e w' => e = .returned (.bool true) ∧ Below w.heap.size w w' := by
  have HX := Aside0.mk e_X
  clear e_X
  have HF := Aside0.mk e_F
  clear e_F
  have HH := Aside0.mk e_H
  clear e_H
  have HB1 := Aside0.mk e_B1
  clear e_B1
  unfold sv
  have HB := Aside0.mk (Below.refl w.heap.size w)
  go_enter Try.func6, Try.ntmps6
  go_wp2_with fail
  refine (lives_any _).mono ?_
  rintro e w1 ⟨rfl, hb1⟩
  have s1_0 : IsB w1 (w.heap.size) 23 a b c d := IsB.below (by repeat (first | ((refine isB_at _ _ _ _ _ ?_); (simp; done)) | apply IsB.alloc)) hb1
  have cs1_0_0 := blk_cell s1_0 0
  have cs1_0_1 := blk_cell s1_0 1
  have cs1_0_2 := blk_cell s1_0 2
  have cs1_0_3 := blk_cell s1_0 3
  simp only [List.getElem?_toArray, List.getElem?_cons_zero, List.getElem?_cons_succ] at cs1_0_0 cs1_0_1 cs1_0_2 cs1_0_3
  have ls1_0 := blk_lt s1_0
  have Hs1_0 := Aside0.mk s1_0; clear s1_0
  have n0 := Aside0.mk (below_step (by repeat (first | (with_reducible first | exact HB.out | apply below_alloc | apply pw_below_drewN) | refine below_set ?_ (by omega))) hb1)
  clear HB hb1
  have HB := n0; clear n0
  go_wp2_with fail
  refine (good_any ⟨a, b, c, d⟩ _).mono ?_
  rintro e w2 ⟨rfl, hb2⟩
  have s2_0 : IsB w2 (w.heap.size) 23 a b c d := IsB.below (by repeat (with_reducible first | exact Hs1_0.out | apply IsB.alloc | apply IsB.drewN)) hb2
  have cs2_0_0 := blk_cell s2_0 0
  have cs2_0_1 := blk_cell s2_0 1
  have cs2_0_2 := blk_cell s2_0 2
  have cs2_0_3 := blk_cell s2_0 3
  simp only [List.getElem?_toArray, List.getElem?_cons_zero, List.getElem?_cons_succ] at cs2_0_0 cs2_0_1 cs2_0_2 cs2_0_3
  have ls2_0 := blk_lt s2_0
  have Hs2_0 := Aside0.mk s2_0; clear s2_0
  clear ls1_0 cs1_0_0 cs1_0_1 cs1_0_2 cs1_0_3
  have n0 := Aside0.mk (below_step (by repeat (first | (with_reducible first | exact HB.out | apply below_alloc | apply pw_below_drewN) | refine below_set ?_ (by omega))) hb2)
  clear HB hb2
  have HB := n0; clear n0
  rw [HX.out]
  dsimp only [sv]
  go_wp2_with fail
  refine (fall_any ⟨x0, x1, x2, x3⟩ _).mono ?_
  rintro e w3 ⟨rfl, hb3⟩
  have s3_0 : IsB w3 (w.heap.size) 23 a b c d := IsB.below (by repeat (with_reducible first | exact Hs2_0.out | apply IsB.alloc | apply IsB.drewN)) hb3
  have cs3_0_0 := blk_cell s3_0 0
  have cs3_0_1 := blk_cell s3_0 1
  have cs3_0_2 := blk_cell s3_0 2
  have cs3_0_3 := blk_cell s3_0 3
  simp only [List.getElem?_toArray, List.getElem?_cons_zero, List.getElem?_cons_succ] at cs3_0_0 cs3_0_1 cs3_0_2 cs3_0_3
  have ls3_0 := blk_lt s3_0
  have Hs3_0 := Aside0.mk s3_0; clear s3_0
  clear ls2_0 cs2_0_0 cs2_0_1 cs2_0_2 cs2_0_3
  have s3_1 : IsB w3 (w2.heap.size) 25 x0 x1 x2 x3 := IsB.below (by repeat (first | ((refine isB_at _ _ _ _ _ ?_); (simp; done)) | apply IsB.alloc)) hb3
  have cs3_1_0 := blk_cell s3_1 0
  have cs3_1_1 := blk_cell s3_1 1
  have cs3_1_2 := blk_cell s3_1 2
  have cs3_1_3 := blk_cell s3_1 3
  simp only [List.getElem?_toArray, List.getElem?_cons_zero, List.getElem?_cons_succ] at cs3_1_0 cs3_1_1 cs3_1_2 cs3_1_3
  have ls3_1 := blk_lt s3_1
  have Hs3_1 := Aside0.mk s3_1; clear s3_1
  have n0 := Aside0.mk (below_step (by repeat (first | (with_reducible first | exact HB.out | apply below_alloc | apply pw_below_drewN) | refine below_set ?_ (by omega))) hb3)
  clear HB hb3
  have HB := n0; clear n0
  rw [HF.out]
  dsimp only [sv]
  go_wp2_with fail
  refine (hurt_any ⟨x0, x1, x2, x3⟩ _).mono ?_
  rintro e w4 ⟨rfl, hb4⟩
  have s4_0 : IsB w4 (w.heap.size) 23 a b c d := IsB.below (by repeat (with_reducible first | exact Hs3_0.out | apply IsB.alloc | apply IsB.drewN)) hb4
  have cs4_0_0 := blk_cell s4_0 0
  have cs4_0_1 := blk_cell s4_0 1
  have cs4_0_2 := blk_cell s4_0 2
  have cs4_0_3 := blk_cell s4_0 3
  simp only [List.getElem?_toArray, List.getElem?_cons_zero, List.getElem?_cons_succ] at cs4_0_0 cs4_0_1 cs4_0_2 cs4_0_3
  have ls4_0 := blk_lt s4_0
  have Hs4_0 := Aside0.mk s4_0; clear s4_0
  clear ls3_0 cs3_0_0 cs3_0_1 cs3_0_2 cs3_0_3
  have s4_1 : IsB w4 (w2.heap.size) 25 x0 x1 x2 x3 := IsB.below (by repeat (with_reducible first | exact Hs3_1.out | apply IsB.alloc | apply IsB.drewN)) hb4
  have cs4_1_0 := blk_cell s4_1 0
  have cs4_1_1 := blk_cell s4_1 1
  have cs4_1_2 := blk_cell s4_1 2
  have cs4_1_3 := blk_cell s4_1 3
  simp only [List.getElem?_toArray, List.getElem?_cons_zero, List.getElem?_cons_succ] at cs4_1_0 cs4_1_1 cs4_1_2 cs4_1_3
  have ls4_1 := blk_lt s4_1
  have Hs4_1 := Aside0.mk s4_1; clear s4_1
  clear ls3_1 cs3_1_0 cs3_1_1 cs3_1_2 cs3_1_3
  have s4_2 : IsB w4 (w3.heap.size) 25 0 0 x2 x3 := IsB.below (by repeat (first | ((refine isB_at _ _ _ _ _ ?_); (simp; done)) | apply IsB.alloc)) hb4
  have cs4_2_0 := blk_cell s4_2 0
  have cs4_2_1 := blk_cell s4_2 1
  have cs4_2_2 := blk_cell s4_2 2
  have cs4_2_3 := blk_cell s4_2 3
  simp only [List.getElem?_toArray, List.getElem?_cons_zero, List.getElem?_cons_succ] at cs4_2_0 cs4_2_1 cs4_2_2 cs4_2_3
  have ls4_2 := blk_lt s4_2
  have Hs4_2 := Aside0.mk s4_2; clear s4_2
  have n0 := Aside0.mk (below_step (by repeat (first | (with_reducible first | exact HB.out | apply below_alloc | apply pw_below_drewN) | refine below_set ?_ (by omega))) hb4)
  clear HB hb4
  have HB := n0; clear n0
  rw [HH.out]
  dsimp only [sv]
  go_wp2_with fail
  refine (heal_any ⟨x0, x1, x2, x3⟩ _).mono ?_
  rintro e w5 ⟨rfl, hb5⟩
  have s5_0 : IsB w5 (w.heap.size) 23 a b c d := IsB.below (by repeat (with_reducible first | exact Hs4_0.out | apply IsB.alloc | apply IsB.drewN)) hb5
  have cs5_0_0 := blk_cell s5_0 0
  have cs5_0_1 := blk_cell s5_0 1
  have cs5_0_2 := blk_cell s5_0 2
  have cs5_0_3 := blk_cell s5_0 3
  simp only [List.getElem?_toArray, List.getElem?_cons_zero, List.getElem?_cons_succ] at cs5_0_0 cs5_0_1 cs5_0_2 cs5_0_3
  have ls5_0 := blk_lt s5_0
  have Hs5_0 := Aside0.mk s5_0; clear s5_0
  clear ls4_0 cs4_0_0 cs4_0_1 cs4_0_2 cs4_0_3
  have s5_1 : IsB w5 (w2.heap.size) 25 x0 x1 x2 x3 := IsB.below (by repeat (with_reducible first | exact Hs4_1.out | apply IsB.alloc | apply IsB.drewN)) hb5
  have cs5_1_0 := blk_cell s5_1 0
  have cs5_1_1 := blk_cell s5_1 1
  have cs5_1_2 := blk_cell s5_1 2
  have cs5_1_3 := blk_cell s5_1 3
  simp only [List.getElem?_toArray, List.getElem?_cons_zero, List.getElem?_cons_succ] at cs5_1_0 cs5_1_1 cs5_1_2 cs5_1_3
  have ls5_1 := blk_lt s5_1
  have Hs5_1 := Aside0.mk s5_1; clear s5_1
  clear ls4_1 cs4_1_0 cs4_1_1 cs4_1_2 cs4_1_3
  have s5_2 : IsB w5 (w3.heap.size) 25 0 0 x2 x3 := IsB.below (by repeat (with_reducible first | exact Hs4_2.out | apply IsB.alloc | apply IsB.drewN)) hb5
  have cs5_2_0 := blk_cell s5_2 0
  have cs5_2_1 := blk_cell s5_2 1
  have cs5_2_2 := blk_cell s5_2 2
  have cs5_2_3 := blk_cell s5_2 3
  simp only [List.getElem?_toArray, List.getElem?_cons_zero, List.getElem?_cons_succ] at cs5_2_0 cs5_2_1 cs5_2_2 cs5_2_3
  have ls5_2 := blk_lt s5_2
  have Hs5_2 := Aside0.mk s5_2; clear s5_2
  clear ls4_2 cs4_2_0 cs4_2_1 cs4_2_2 cs4_2_3
  have s5_3 : IsB w5 (w4.heap.size) 25 x0 x1 x2 x3 := IsB.below (by repeat (first | ((refine isB_at _ _ _ _ _ ?_); (simp; done)) | apply IsB.alloc)) hb5
  have cs5_3_0 := blk_cell s5_3 0
  have cs5_3_1 := blk_cell s5_3 1
  have cs5_3_2 := blk_cell s5_3 2
  have cs5_3_3 := blk_cell s5_3 3
  simp only [List.getElem?_toArray, List.getElem?_cons_zero, List.getElem?_cons_succ] at cs5_3_0 cs5_3_1 cs5_3_2 cs5_3_3
  have ls5_3 := blk_lt s5_3
  have Hs5_3 := Aside0.mk s5_3; clear s5_3
  have n0 := Aside0.mk (below_step (by repeat (first | (with_reducible first | exact HB.out | apply below_alloc | apply pw_below_drewN) | refine below_set ?_ (by omega))) hb5)
  clear HB hb5
  have HB := n0; clear n0
  rw [HB1.out]
  dsimp only [sv]
  go_wp2
  go_ret
  exact ⟨rfl, by repeat (first | (with_reducible first | exact HB.out | apply below_alloc | apply pw_below_drewN) | refine below_set ?_ (by omega))⟩

theorem walk (a b c d : Int) (w : World) : Calls Try.prog 6 #[sv ⟨a, b, c, d⟩] w fun e w' => e = .returned (.bool true) ∧ Below w.heap.size w w' := by
  obtain ⟨⟨x0, x1, x2, x3⟩, hx⟩ : ∃ x, good ⟨a, b, c, d⟩ = x := ⟨_, rfl⟩
  have hr : right ⟨x0, x1, x2, x3⟩ = true := by rw [← hx]; exact good_right _
  obtain ⟨r, hf⟩ : ∃ r, falls ⟨x0, x1, x2, x3⟩ = (⟨0, 0, x2, x3⟩, r) := ⟨_, by unfold falls; rw [if_pos hr]⟩
  by_cases h : x0 = 2
  · have hr3 : right ⟨3, x1, x2, x3⟩ = true := by
      unfold right at hr ⊢
      simp only [decide_eq_true_eq] at hr ⊢
      omega
    exact yes a b c d x0 x1 x2 x3 r w hx hf (by unfold turns; rw [if_pos ⟨hr, h⟩]) (by unfold turns; rw [if_pos ⟨hr3, rfl⟩, h]) (by simp [h])
  · obtain ⟨⟨⟨y0, y1, y2, y3⟩, k⟩, hk⟩ : ∃ y, turns ⟨x0, x1, x2, x3⟩ 3 2 = y := ⟨_, rfl⟩
    exact no a b c d x0 x1 x2 x3 y0 y1 y2 y3 r k w hx hf (by unfold turns; rw [if_neg (fun k => h k.2)]) hk (by simp [h])
end Go.Proofs.Ytiegioncmpkpcaa.WalkSlotFalls
