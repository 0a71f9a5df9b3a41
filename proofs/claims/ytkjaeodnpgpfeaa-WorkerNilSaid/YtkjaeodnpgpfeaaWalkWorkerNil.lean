/-
  Proved here: what pacesetterlaw16.WorkerNil returns, whatever the input: true. No condition.
-/
import Derived.Test.YtkjaeodnpgpfeaaW4
namespace Go.Proofs.Ytkjaeodnpgpfeaa.WalkWorkerNil
open Go.RowKit Go.Maps Go.Sort Go.Shelf Go.Proofs.Ytkjaeodnpgpfeaa.M Go.Proofs.Ytkjaeodnpgpfeaa.S0 Go.Proofs.Ytkjaeodnpgpfeaa.S4 Go.Proofs.Ytkjaeodnpgpfeaa.W0 Go.Proofs.YtkjaeodnpgpfeaaW.PrintWords Go.Proofs.YtkjaeodnpgpfeaaW.PrintLast Go.Proofs.YtkjaeodnpgpfeaaW.PrintMore Go.Proofs.Ytkjaeodnpgpfeaa.W1 Go.Proofs.Ytkjaeodnpgpfeaa.W2 Go.Proofs.Ytkjaeodnpgpfeaa.W3 Go.Proofs.Ytkjaeodnpgpfeaa.W4
set_option linter.unusedVariables false
set_option linter.unusedSimpArgs false
attribute [local go_sem] max2_int min2_int max_two min_two run_makeMap

set_option maxRecDepth 100000 in
set_option maxHeartbeats 4000000 in
theorem walk (m0 m1 m2 m3 m4 m5 u : Int) (w : World) (hwf : (Lit.int .i64 u).wf = true) : Calls Try.prog 8 #[.agg #[.int .i64 m0, .int .i64 m1, .int .i64 m2, .int .i64 m3, .int .i64 m4, .int .i64 m5], .int .i64 u] w fun e w' => e = .returned (.bool true) ∧ Below w.heap.size w w' := by
  clear hwf
  have HB := Aside0.mk (Below.refl w.heap.size w)
  go_enter Try.func8, Try.ntmps8
  go_wp2_with fail
  refine (lives_q _).mono ?_
  rintro e w1 ⟨rfl, hb1⟩
  have M : IsBlk w1 w.heap.size #[.int .i64 m0, .int .i64 m1, .int .i64 m2, .int .i64 m3, .int .i64 m4, .int .i64 m5] 26 := IsBlk.below (by repeat (first | ((refine IsBlk.new _ _ ?_); (first | rfl | simp); done) | apply IsBlk.alloc | apply IsBlk.drewN | apply IsBlk.drew)) hb1
  have M_0 := blk_cell M 0
  have M_1 := blk_cell M 1
  have M_2 := blk_cell M 2
  have M_3 := blk_cell M 3
  have M_4 := blk_cell M 4
  have M_5 := blk_cell M 5
  simp only [List.getElem?_toArray, List.getElem?_cons_zero, List.getElem?_cons_succ] at M_0 M_1 M_2 M_3 M_4 M_5
  have M_z0 := blk_frozen M 0
  have M_z1 := blk_frozen M 1
  have M_z2 := blk_frozen M 2
  have M_z3 := blk_frozen M 3
  have M_z4 := blk_frozen M 4
  have M_z5 := blk_frozen M 5
  have M_l := blk_lt M
  have HM := Aside0.mk M
  clear M
  have n0 := Aside0.mk (below_step (by repeat (first | (with_reducible first | exact HB.out | apply below_alloc | apply pw_below_drewN | apply below_drew1) | refine below_set ?_ (by omega))) hb1)
  clear HB hb1
  have HB := n0
  clear n0
  go_wp2_with fail
  refine (report_nil u _).mono ?_
  rintro e w2 ⟨rfl, hb1⟩
  have M' := IsBlk.below (by repeat (with_reducible first | exact HM.out | apply IsBlk.alloc | apply IsBlk.drewN | apply IsBlk.drew)) hb1
  clear M_0 M_1 M_2 M_3 M_4 M_5 M_z0 M_z1 M_z2 M_z3 M_z4 M_z5 M_l HM
  have M := M'
  clear M'
  have M_0 := blk_cell M 0
  have M_1 := blk_cell M 1
  have M_2 := blk_cell M 2
  have M_3 := blk_cell M 3
  have M_4 := blk_cell M 4
  have M_5 := blk_cell M 5
  simp only [List.getElem?_toArray, List.getElem?_cons_zero, List.getElem?_cons_succ] at M_0 M_1 M_2 M_3 M_4 M_5
  have M_z0 := blk_frozen M 0
  have M_z1 := blk_frozen M 1
  have M_z2 := blk_frozen M 2
  have M_z3 := blk_frozen M 3
  have M_z4 := blk_frozen M 4
  have M_z5 := blk_frozen M 5
  have M_l := blk_lt M
  have HM := Aside0.mk M
  clear M
  have n0 := Aside0.mk (below_step (by repeat (first | (with_reducible first | exact HB.out | apply below_alloc | apply pw_below_drewN | apply below_drew1) | refine below_set ?_ (by omega))) hb1)
  clear HB hb1
  have HB := n0
  clear n0
  go_wp2_with fail
  refine (slot_nil u _).mono ?_
  rw [show sv zs = S1.sval 0 0 0 0 from rfl]
  rintro e w3 ⟨rfl, hb1⟩
  have M' := IsBlk.below (by repeat (with_reducible first | exact HM.out | apply IsBlk.alloc | apply IsBlk.drewN | apply IsBlk.drew)) hb1
  clear M_0 M_1 M_2 M_3 M_4 M_5 M_z0 M_z1 M_z2 M_z3 M_z4 M_z5 M_l HM
  have M := M'
  clear M'
  have M_0 := blk_cell M 0
  have M_1 := blk_cell M 1
  have M_2 := blk_cell M 2
  have M_3 := blk_cell M 3
  have M_4 := blk_cell M 4
  have M_5 := blk_cell M 5
  simp only [List.getElem?_toArray, List.getElem?_cons_zero, List.getElem?_cons_succ] at M_0 M_1 M_2 M_3 M_4 M_5
  have M_z0 := blk_frozen M 0
  have M_z1 := blk_frozen M 1
  have M_z2 := blk_frozen M 2
  have M_z3 := blk_frozen M 3
  have M_z4 := blk_frozen M 4
  have M_z5 := blk_frozen M 5
  have M_l := blk_lt M
  have HM := Aside0.mk M
  clear M
  have n0 := Aside0.mk (below_step (by repeat (first | (with_reducible first | exact HB.out | apply below_alloc | apply pw_below_drewN | apply below_drew1) | refine below_set ?_ (by omega))) hb1)
  clear HB hb1
  have HB := n0
  clear n0
  go_wp2_with fail
  refine (apply_nil m0 m1 m2 m3 m4 m5 _).mono ?_
  rintro e w4 ⟨rfl, hb1⟩
  have M' := IsBlk.below (by repeat (with_reducible first | exact HM.out | apply IsBlk.alloc | apply IsBlk.drewN | apply IsBlk.drew)) hb1
  clear M_0 M_1 M_2 M_3 M_4 M_5 M_z0 M_z1 M_z2 M_z3 M_z4 M_z5 M_l HM
  have M := M'
  clear M'
  have M_0 := blk_cell M 0
  have M_1 := blk_cell M 1
  have M_2 := blk_cell M 2
  have M_3 := blk_cell M 3
  have M_4 := blk_cell M 4
  have M_5 := blk_cell M 5
  simp only [List.getElem?_toArray, List.getElem?_cons_zero, List.getElem?_cons_succ] at M_0 M_1 M_2 M_3 M_4 M_5
  have M_z0 := blk_frozen M 0
  have M_z1 := blk_frozen M 1
  have M_z2 := blk_frozen M 2
  have M_z3 := blk_frozen M 3
  have M_z4 := blk_frozen M 4
  have M_z5 := blk_frozen M 5
  have M_l := blk_lt M
  have HM := Aside0.mk M
  clear M
  have n0 := Aside0.mk (below_step (by repeat (first | (with_reducible first | exact HB.out | apply below_alloc | apply pw_below_drewN | apply below_drew1) | refine below_set ?_ (by omega))) hb1)
  clear HB hb1
  have HB := n0
  clear n0
  go_wp2_with fail
  refine (go_wnil u _).mono ?_
  rintro e w5 ⟨rfl, hb1⟩
  have M' := IsBlk.below (by repeat (with_reducible first | exact HM.out | apply IsBlk.alloc | apply IsBlk.drewN | apply IsBlk.drew)) hb1
  clear M_0 M_1 M_2 M_3 M_4 M_5 M_z0 M_z1 M_z2 M_z3 M_z4 M_z5 M_l HM
  have M := M'
  clear M'
  have M_0 := blk_cell M 0
  have M_1 := blk_cell M 1
  have M_2 := blk_cell M 2
  have M_3 := blk_cell M 3
  have M_4 := blk_cell M 4
  have M_5 := blk_cell M 5
  simp only [List.getElem?_toArray, List.getElem?_cons_zero, List.getElem?_cons_succ] at M_0 M_1 M_2 M_3 M_4 M_5
  have M_z0 := blk_frozen M 0
  have M_z1 := blk_frozen M 1
  have M_z2 := blk_frozen M 2
  have M_z3 := blk_frozen M 3
  have M_z4 := blk_frozen M 4
  have M_z5 := blk_frozen M 5
  have M_l := blk_lt M
  have HM := Aside0.mk M
  clear M
  have n0 := Aside0.mk (below_step (by repeat (first | (with_reducible first | exact HB.out | apply below_alloc | apply pw_below_drewN | apply below_drew1) | refine below_set ?_ (by omega))) hb1)
  clear HB hb1
  have HB := n0
  clear n0
  go_wp2_with fail
  refine (hurt_wnil u _).mono ?_
  rintro e w6 ⟨rfl, hb1⟩
  have M' := IsBlk.below (by repeat (with_reducible first | exact HM.out | apply IsBlk.alloc | apply IsBlk.drewN | apply IsBlk.drew)) hb1
  clear M_0 M_1 M_2 M_3 M_4 M_5 M_z0 M_z1 M_z2 M_z3 M_z4 M_z5 M_l HM
  have M := M'
  clear M'
  have M_0 := blk_cell M 0
  have M_1 := blk_cell M 1
  have M_2 := blk_cell M 2
  have M_3 := blk_cell M 3
  have M_4 := blk_cell M 4
  have M_5 := blk_cell M 5
  simp only [List.getElem?_toArray, List.getElem?_cons_zero, List.getElem?_cons_succ] at M_0 M_1 M_2 M_3 M_4 M_5
  have M_z0 := blk_frozen M 0
  have M_z1 := blk_frozen M 1
  have M_z2 := blk_frozen M 2
  have M_z3 := blk_frozen M 3
  have M_z4 := blk_frozen M 4
  have M_z5 := blk_frozen M 5
  have M_l := blk_lt M
  have HM := Aside0.mk M
  clear M
  have n0 := Aside0.mk (below_step (by repeat (first | (with_reducible first | exact HB.out | apply below_alloc | apply pw_below_drewN | apply below_drew1) | refine below_set ?_ (by omega))) hb1)
  clear HB hb1
  have HB := n0
  clear n0
  go_wp2_with fail
  refine (heal_wnil u _).mono ?_
  rintro e w7 ⟨rfl, hb1⟩
  have M' := IsBlk.below (by repeat (with_reducible first | exact HM.out | apply IsBlk.alloc | apply IsBlk.drewN | apply IsBlk.drew)) hb1
  clear M_0 M_1 M_2 M_3 M_4 M_5 M_z0 M_z1 M_z2 M_z3 M_z4 M_z5 M_l HM
  have M := M'
  clear M'
  have M_0 := blk_cell M 0
  have M_1 := blk_cell M 1
  have M_2 := blk_cell M 2
  have M_3 := blk_cell M 3
  have M_4 := blk_cell M 4
  have M_5 := blk_cell M 5
  simp only [List.getElem?_toArray, List.getElem?_cons_zero, List.getElem?_cons_succ] at M_0 M_1 M_2 M_3 M_4 M_5
  have M_z0 := blk_frozen M 0
  have M_z1 := blk_frozen M 1
  have M_z2 := blk_frozen M 2
  have M_z3 := blk_frozen M 3
  have M_z4 := blk_frozen M 4
  have M_z5 := blk_frozen M 5
  have M_l := blk_lt M
  have HM := Aside0.mk M
  clear M
  have n0 := Aside0.mk (below_step (by repeat (first | (with_reducible first | exact HB.out | apply below_alloc | apply pw_below_drewN | apply below_drew1) | refine below_set ?_ (by omega))) hb1)
  clear HB hb1
  have HB := n0
  clear n0
  go_wp2_with fail
  refine (fall_wnil _).mono ?_
  rintro e w8 ⟨rfl, hb1⟩
  have M' := IsBlk.below (by repeat (with_reducible first | exact HM.out | apply IsBlk.alloc | apply IsBlk.drewN | apply IsBlk.drew)) hb1
  clear M_0 M_1 M_2 M_3 M_4 M_5 M_z0 M_z1 M_z2 M_z3 M_z4 M_z5 M_l HM
  have M := M'
  clear M'
  have M_0 := blk_cell M 0
  have M_1 := blk_cell M 1
  have M_2 := blk_cell M 2
  have M_3 := blk_cell M 3
  have M_4 := blk_cell M 4
  have M_5 := blk_cell M 5
  simp only [List.getElem?_toArray, List.getElem?_cons_zero, List.getElem?_cons_succ] at M_0 M_1 M_2 M_3 M_4 M_5
  have M_z0 := blk_frozen M 0
  have M_z1 := blk_frozen M 1
  have M_z2 := blk_frozen M 2
  have M_z3 := blk_frozen M 3
  have M_z4 := blk_frozen M 4
  have M_z5 := blk_frozen M 5
  have M_l := blk_lt M
  have HM := Aside0.mk M
  clear M
  have n0 := Aside0.mk (below_step (by repeat (first | (with_reducible first | exact HB.out | apply below_alloc | apply pw_below_drewN | apply below_drew1) | refine below_set ?_ (by omega))) hb1)
  clear HB hb1
  have HB := n0
  clear n0
  go_wp2_with fail
  refine (units_nil _).mono ?_
  rintro e w9 ⟨rfl, hb1⟩
  have M' := IsBlk.below (by repeat (with_reducible first | exact HM.out | apply IsBlk.alloc | apply IsBlk.drewN | apply IsBlk.drew)) hb1
  clear M_0 M_1 M_2 M_3 M_4 M_5 M_z0 M_z1 M_z2 M_z3 M_z4 M_z5 M_l HM
  have M := M'
  clear M'
  have M_0 := blk_cell M 0
  have M_1 := blk_cell M 1
  have M_2 := blk_cell M 2
  have M_3 := blk_cell M 3
  have M_4 := blk_cell M 4
  have M_5 := blk_cell M 5
  simp only [List.getElem?_toArray, List.getElem?_cons_zero, List.getElem?_cons_succ] at M_0 M_1 M_2 M_3 M_4 M_5
  have M_z0 := blk_frozen M 0
  have M_z1 := blk_frozen M 1
  have M_z2 := blk_frozen M 2
  have M_z3 := blk_frozen M 3
  have M_z4 := blk_frozen M 4
  have M_z5 := blk_frozen M 5
  have M_l := blk_lt M
  have HM := Aside0.mk M
  clear M
  have n0 := Aside0.mk (below_step (by repeat (first | (with_reducible first | exact HB.out | apply below_alloc | apply pw_below_drewN | apply below_drew1) | refine below_set ?_ (by omega))) hb1)
  clear HB hb1
  have HB := n0
  clear n0
  go_wp2_with fail
  refine (seen_nil _).mono ?_
  rintro e w10 ⟨rfl, hb1⟩
  have M' := IsBlk.below (by repeat (with_reducible first | exact HM.out | apply IsBlk.alloc | apply IsBlk.drewN | apply IsBlk.drew)) hb1
  clear M_0 M_1 M_2 M_3 M_4 M_5 M_z0 M_z1 M_z2 M_z3 M_z4 M_z5 M_l HM
  have M := M'
  clear M'
  have M_0 := blk_cell M 0
  have M_1 := blk_cell M 1
  have M_2 := blk_cell M 2
  have M_3 := blk_cell M 3
  have M_4 := blk_cell M 4
  have M_5 := blk_cell M 5
  simp only [List.getElem?_toArray, List.getElem?_cons_zero, List.getElem?_cons_succ] at M_0 M_1 M_2 M_3 M_4 M_5
  have M_z0 := blk_frozen M 0
  have M_z1 := blk_frozen M 1
  have M_z2 := blk_frozen M 2
  have M_z3 := blk_frozen M 3
  have M_z4 := blk_frozen M 4
  have M_z5 := blk_frozen M 5
  have M_l := blk_lt M
  have HM := Aside0.mk M
  clear M
  have n0 := Aside0.mk (below_step (by repeat (first | (with_reducible first | exact HB.out | apply below_alloc | apply pw_below_drewN | apply below_drew1) | refine below_set ?_ (by omega))) hb1)
  clear HB hb1
  have HB := n0
  clear n0
  go_wp2_with fail
  refine (count_nil 0 _).mono ?_
  rintro e w11 ⟨rfl, hb1⟩
  have M' := IsBlk.below (by repeat (with_reducible first | exact HM.out | apply IsBlk.alloc | apply IsBlk.drewN | apply IsBlk.drew)) hb1
  clear M_0 M_1 M_2 M_3 M_4 M_5 M_z0 M_z1 M_z2 M_z3 M_z4 M_z5 M_l HM
  have M := M'
  clear M'
  have M_0 := blk_cell M 0
  have M_1 := blk_cell M 1
  have M_2 := blk_cell M 2
  have M_3 := blk_cell M 3
  have M_4 := blk_cell M 4
  have M_5 := blk_cell M 5
  simp only [List.getElem?_toArray, List.getElem?_cons_zero, List.getElem?_cons_succ] at M_0 M_1 M_2 M_3 M_4 M_5
  have M_z0 := blk_frozen M 0
  have M_z1 := blk_frozen M 1
  have M_z2 := blk_frozen M 2
  have M_z3 := blk_frozen M 3
  have M_z4 := blk_frozen M 4
  have M_z5 := blk_frozen M 5
  have M_l := blk_lt M
  have HM := Aside0.mk M
  clear M
  have n0 := Aside0.mk (below_step (by repeat (first | (with_reducible first | exact HB.out | apply below_alloc | apply pw_below_drewN | apply below_drew1) | refine below_set ?_ (by omega))) hb1)
  clear HB hb1
  have HB := n0
  clear n0
  go_wp2
  go_ret
  exact ⟨rfl, by repeat (first | (with_reducible first | exact HB.out | apply below_alloc | apply pw_below_drewN | apply below_drew1) | refine below_set ?_ (by omega))⟩
end Go.Proofs.Ytkjaeodnpgpfeaa.WalkWorkerNil
