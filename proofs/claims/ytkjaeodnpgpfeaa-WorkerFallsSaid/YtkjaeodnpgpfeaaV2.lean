/-
  Proved here: what the reference's Right and Apply answer. No condition.
-/
import Derived.Test.YtkjaeodnpgpfeaaV1
namespace Go.Proofs.Ytkjaeodnpgpfeaa.V2
open Go.RowKit Go.Maps Go.Sort Go.Shelf Go.Proofs.Ytkjaeodnpgpfeaa.M Go.Proofs.Ytkjaeodnpgpfeaa.S0 Go.Proofs.Ytkjaeodnpgpfeaa.S4 Go.Proofs.Ytkjaeodnpgpfeaa.W0 Go.Proofs.YtkjaeodnpgpfeaaW.PrintWords Go.Proofs.YtkjaeodnpgpfeaaW.PrintLast Go.Proofs.YtkjaeodnpgpfeaaW.PrintMore Go.Proofs.Ytkjaeodnpgpfeaa.W1 Go.Proofs.Ytkjaeodnpgpfeaa.W2 Go.Proofs.Ytkjaeodnpgpfeaa.W3 Go.Proofs.Ytkjaeodnpgpfeaa.W4 Go.Proofs.Ytkjaeodnpgpfeaa.W5 Go.Proofs.Ytkjaeodnpgpfeaa.V0 Go.Proofs.Ytkjaeodnpgpfeaa.V1
set_option linter.unusedVariables false
set_option linter.unusedSimpArgs false
attribute [local go_sem] max2_int min2_int max_two min_two min_five run_makeMap

def rightM (m0 m1 m2 m3 m4 m5 : Int) : Bool := (m0 == 1 || m0 == 2) && decide (0 ≤ lowM m1 m2 m3 m4 m5)
theorem right_x (m0 m1 m2 m3 m4 m5 : Int) (w : World) (x1 : (m0 == 1) = false) (x2 : (m0 == 2) = false) : Calls Try.prog 48 #[.agg #[.int .i64 m0, .int .i64 m1, .int .i64 m2, .int .i64 m3, .int .i64 m4, .int .i64 m5]] w fun e w' => e = .returned (.bool false) ∧ Below w.heap.size w w' := by
  have HB := Aside0.mk (Below.refl w.heap.size w)
  go_enter Try.func48, Try.ntmps48
  go_wp2
  go_ret
  exact ⟨rfl, by repeat (first | (with_reducible first | exact HB.out | apply below_alloc | apply pw_below_drewN | apply below_drew1) | refine below_set ?_ (by omega))⟩
theorem right_1 (m0 m1 m2 m3 m4 m5 : Int) (w : World) (x1 : (m0 == 1) = true) (b : Bool) (x3 : decide (0 ≤ lowM m1 m2 m3 m4 m5) = b) : Calls Try.prog 48 #[.agg #[.int .i64 m0, .int .i64 m1, .int .i64 m2, .int .i64 m3, .int .i64 m4, .int .i64 m5]] w fun e w' => e = .returned (.bool b) ∧ Below w.heap.size w w' := by
  obtain ⟨y1, hy1⟩ : ∃ y, mn m1 m2 = y := ⟨_, rfl⟩
  obtain ⟨y2, hy2⟩ : ∃ y, mn y1 m3 = y := ⟨_, rfl⟩
  obtain ⟨y3, hy3⟩ : ∃ y, mn y2 m4 = y := ⟨_, rfl⟩
  obtain ⟨y4, hy4⟩ : ∃ y, mn y3 m5 = y := ⟨_, rfl⟩
  have hy : lowM m1 m2 m3 m4 m5 = y4 := by unfold lowM; rw [hy1, hy2, hy3, hy4]
  rw [hy] at x3
  replace hy1 : (if m2 < m1 then m2 else m1) = y1 := hy1
  replace hy2 : (if m3 < y1 then m3 else y1) = y2 := hy2
  replace hy3 : (if m4 < y2 then m4 else y2) = y3 := hy3
  replace hy4 : (if m5 < y3 then m5 else y3) = y4 := hy4
  clear hy
  have HB := Aside0.mk (Below.refl w.heap.size w)
  go_enter Try.func48, Try.ntmps48
  go_wp2
  go_ret
  exact ⟨rfl, by repeat (first | (with_reducible first | exact HB.out | apply below_alloc | apply pw_below_drewN | apply below_drew1) | refine below_set ?_ (by omega))⟩
theorem right_2 (m0 m1 m2 m3 m4 m5 : Int) (w : World) (x1 : (m0 == 1) = false) (x2 : (m0 == 2) = true) (b : Bool) (x3 : decide (0 ≤ lowM m1 m2 m3 m4 m5) = b) : Calls Try.prog 48 #[.agg #[.int .i64 m0, .int .i64 m1, .int .i64 m2, .int .i64 m3, .int .i64 m4, .int .i64 m5]] w fun e w' => e = .returned (.bool b) ∧ Below w.heap.size w w' := by
  obtain ⟨y1, hy1⟩ : ∃ y, mn m1 m2 = y := ⟨_, rfl⟩
  obtain ⟨y2, hy2⟩ : ∃ y, mn y1 m3 = y := ⟨_, rfl⟩
  obtain ⟨y3, hy3⟩ : ∃ y, mn y2 m4 = y := ⟨_, rfl⟩
  obtain ⟨y4, hy4⟩ : ∃ y, mn y3 m5 = y := ⟨_, rfl⟩
  have hy : lowM m1 m2 m3 m4 m5 = y4 := by unfold lowM; rw [hy1, hy2, hy3, hy4]
  rw [hy] at x3
  replace hy1 : (if m2 < m1 then m2 else m1) = y1 := hy1
  replace hy2 : (if m3 < y1 then m3 else y1) = y2 := hy2
  replace hy3 : (if m4 < y2 then m4 else y2) = y3 := hy3
  replace hy4 : (if m5 < y3 then m5 else y3) = y4 := hy4
  clear hy
  have HB := Aside0.mk (Below.refl w.heap.size w)
  go_enter Try.func48, Try.ntmps48
  go_wp2
  go_ret
  exact ⟨rfl, by repeat (first | (with_reducible first | exact HB.out | apply below_alloc | apply pw_below_drewN | apply below_drew1) | refine below_set ?_ (by omega))⟩
theorem right_q (m0 m1 m2 m3 m4 m5 : Int) (w : World) : Calls Try.prog 48 #[.agg #[.int .i64 m0, .int .i64 m1, .int .i64 m2, .int .i64 m3, .int .i64 m4, .int .i64 m5]] w fun e w' => e = .returned (.bool (rightM m0 m1 m2 m3 m4 m5)) ∧ Below w.heap.size w w' := by
  unfold rightM
  cases x1 : (m0 == 1)
  · cases x2 : (m0 == 2)
    · exact right_x m0 m1 m2 m3 m4 m5 w x1 x2
    · simp only [Bool.false_or, Bool.true_and]
      exact right_2 m0 m1 m2 m3 m4 m5 w x1 x2 _ rfl
  · simp only [Bool.true_or, Bool.true_and]
    exact right_1 m0 m1 m2 m3 m4 m5 w x1 _ rfl
theorem ap_kind (n m seen : Int) (h : Nat → Sl) (m0 m1 m2 m3 m4 m5 : Int) (w : World) (hr : rightM m0 m1 m2 m3 m4 m5 = false) : Calls Try.prog 30 #[.agg (rv n m seen h), .agg #[.int .i64 m0, .int .i64 m1, .int .i64 m2, .int .i64 m3, .int .i64 m4, .int .i64 m5]] w fun e w' => e = .returned (.tuple #[.agg (rv n m seen h), .int .i64 1]) ∧ Below w.heap.size w w' := by
  have HRR := Aside0.mk hr
  clear hr
  have HB := Aside0.mk (Below.refl w.heap.size w)
  go_enter Try.func30, Try.ntmps30
  go_wp2_with fail
  refine (right_q m0 m1 m2 m3 m4 m5 _).mono ?_
  rw [HRR.out]
  rintro e w1 ⟨rfl, hb1⟩
  have R : IsBlk w1 w.heap.size (rv n m seen h) 47 := IsBlk.below (IsBlk.alloc (IsBlk.alloc (IsBlk.new _ _ rfl) _) _) hb1
  have M : IsBlk w1 (w.heap.size + 1) #[.int .i64 m0, .int .i64 m1, .int .i64 m2, .int .i64 m3, .int .i64 m4, .int .i64 m5] 26 := IsBlk.below (IsBlk.alloc (IsBlk.new _ _ (by simp)) _) hb1
  have Z : IsBlk w1 (w.heap.size + 2) Try.zeroCells47 47 := IsBlk.below (IsBlk.new _ _ (by simp)) hb1
  have HZ := Aside0.mk Z
  clear Z
  have R_0 := (blk_cell R 0).trans (rv_0 n m seen h)
  have R_1 := (blk_cell R 1).trans (rv_1 n m seen h)
  have R_2 := (blk_cell R 2).trans (rv_2 n m seen h)
  have R_z := fun j => blk_frozen R j
  have R_l := blk_lt R
  have HR := Aside0.mk R
  clear R
  have M_0 := blk_cell M 0
  have M_1 := blk_cell M 1
  have M_2 := blk_cell M 2
  have M_3 := blk_cell M 3
  have M_4 := blk_cell M 4
  have M_5 := blk_cell M 5
  simp only [List.getElem?_toArray, List.getElem?_cons_zero, List.getElem?_cons_succ] at M_0 M_1 M_2 M_3 M_4 M_5
  have M_z0 := blk_frozen M 0
  have M_z1 := blk_frozen M 1
  have M_z2 := blk_frozen M 2
  have M_z3 := blk_frozen M 3
  have M_z4 := blk_frozen M 4
  have M_z5 := blk_frozen M 5
  have M_l := blk_lt M
  have HM := Aside0.mk M
  clear M
  have n0 := Aside0.mk (below_step (by repeat (first | (with_reducible first | exact HB.out | apply below_alloc | apply pw_below_drewN | apply below_drew1) | refine below_set ?_ (by omega))) hb1)
  clear HB hb1
  have HB := n0
  clear n0
  go_wp2_with (first | ((with_reducible refine wpList_loadW w.heap.size (rv n m seen h) ?_ ?_ (rv_size _ _ _ _) ?_); rfl; (first | exact HR.out | exact HR.out.alloc _)) | ((with_reducible refine wpList_storeW (w.heap.size + 2) Try.zeroCells47 (rv n m seen h) ?_ ?_ ?_ z67_size (rv_size _ _ _ _) (rv_one _ _ _ _) ?_); rfl; rfl; exact HZ.out; intro w9 hb9 hg9))
  refine retW Try.results30 (w.heap.size + 2) (rv n m seen h) _ rfl rfl hb9 (rv_size _ _ _ _) rfl ⟨rfl, ?_⟩
  exact below_of_new HB.out hg9 (by omega) HB.out.size
theorem ap_kind2 (n m seen : Int) (h : Nat → Sl) (m0 m1 m2 m3 m4 m5 : Int) (w : World) (hr : rightM m0 m1 m2 m3 m4 m5 = true) (hx : (m0 != 1) = true) : Calls Try.prog 30 #[.agg (rv n m seen h), .agg #[.int .i64 m0, .int .i64 m1, .int .i64 m2, .int .i64 m3, .int .i64 m4, .int .i64 m5]] w fun e w' => e = .returned (.tuple #[.agg (rv n m seen h), .int .i64 1]) ∧ Below w.heap.size w w' := by
  have HRR := Aside0.mk hr
  clear hr
  have HB := Aside0.mk (Below.refl w.heap.size w)
  go_enter Try.func30, Try.ntmps30
  go_wp2_with fail
  refine (right_q m0 m1 m2 m3 m4 m5 _).mono ?_
  rw [HRR.out]
  rintro e w1 ⟨rfl, hb1⟩
  have R : IsBlk w1 w.heap.size (rv n m seen h) 47 := IsBlk.below (IsBlk.alloc (IsBlk.alloc (IsBlk.new _ _ rfl) _) _) hb1
  have M : IsBlk w1 (w.heap.size + 1) #[.int .i64 m0, .int .i64 m1, .int .i64 m2, .int .i64 m3, .int .i64 m4, .int .i64 m5] 26 := IsBlk.below (IsBlk.alloc (IsBlk.new _ _ (by simp)) _) hb1
  have Z : IsBlk w1 (w.heap.size + 2) Try.zeroCells47 47 := IsBlk.below (IsBlk.new _ _ (by simp)) hb1
  have HZ := Aside0.mk Z
  clear Z
  have R_0 := (blk_cell R 0).trans (rv_0 n m seen h)
  have R_1 := (blk_cell R 1).trans (rv_1 n m seen h)
  have R_2 := (blk_cell R 2).trans (rv_2 n m seen h)
  have R_z := fun j => blk_frozen R j
  have R_l := blk_lt R
  have HR := Aside0.mk R
  clear R
  have M_0 := blk_cell M 0
  have M_1 := blk_cell M 1
  have M_2 := blk_cell M 2
  have M_3 := blk_cell M 3
  have M_4 := blk_cell M 4
  have M_5 := blk_cell M 5
  simp only [List.getElem?_toArray, List.getElem?_cons_zero, List.getElem?_cons_succ] at M_0 M_1 M_2 M_3 M_4 M_5
  have M_z0 := blk_frozen M 0
  have M_z1 := blk_frozen M 1
  have M_z2 := blk_frozen M 2
  have M_z3 := blk_frozen M 3
  have M_z4 := blk_frozen M 4
  have M_z5 := blk_frozen M 5
  have M_l := blk_lt M
  have HM := Aside0.mk M
  clear M
  have n0 := Aside0.mk (below_step (by repeat (first | (with_reducible first | exact HB.out | apply below_alloc | apply pw_below_drewN | apply below_drew1) | refine below_set ?_ (by omega))) hb1)
  clear HB hb1
  have HB := n0
  clear n0
  go_wp2_with (first | ((with_reducible refine wpList_loadW w.heap.size (rv n m seen h) ?_ ?_ (rv_size _ _ _ _) ?_); rfl; (first | exact HR.out | exact HR.out.alloc _)) | ((with_reducible refine wpList_storeW (w.heap.size + 2) Try.zeroCells47 (rv n m seen h) ?_ ?_ ?_ z67_size (rv_size _ _ _ _) (rv_one _ _ _ _) ?_); rfl; rfl; exact HZ.out; intro w9 hb9 hg9))
  refine retW Try.results30 (w.heap.size + 2) (rv n m seen h) _ rfl rfl hb9 (rv_size _ _ _ _) rfl ⟨rfl, ?_⟩
  exact below_of_new HB.out hg9 (by omega) HB.out.size
theorem ap_own (n m seen : Int) (h : Nat → Sl) (m0 m1 m2 m3 m4 m5 : Int) (w : World) (hm : 1 ≤ m ∧ m ≤ 16) (hr : rightM m0 m1 m2 m3 m4 m5 = true) (hx : (m0 != 1) = false) (ho : ownB n m m3 = false) : Calls Try.prog 30 #[.agg (rv n m seen h), .agg #[.int .i64 m0, .int .i64 m1, .int .i64 m2, .int .i64 m3, .int .i64 m4, .int .i64 m5]] w fun e w' => e = .returned (.tuple #[.agg (rv n m seen h), .int .i64 5]) ∧ Below w.heap.size w w' := by
  have HRR := Aside0.mk hr
  have HOW := Aside0.mk ho
  clear hr ho
  have HB := Aside0.mk (Below.refl w.heap.size w)
  go_enter Try.func30, Try.ntmps30
  go_wp2_with fail
  refine (right_q m0 m1 m2 m3 m4 m5 _).mono ?_
  rw [HRR.out]
  rintro e w1 ⟨rfl, hb1⟩
  have R : IsBlk w1 w.heap.size (rv n m seen h) 47 := IsBlk.below (IsBlk.alloc (IsBlk.alloc (IsBlk.new _ _ rfl) _) _) hb1
  have M : IsBlk w1 (w.heap.size + 1) #[.int .i64 m0, .int .i64 m1, .int .i64 m2, .int .i64 m3, .int .i64 m4, .int .i64 m5] 26 := IsBlk.below (IsBlk.alloc (IsBlk.new _ _ (by simp)) _) hb1
  have Z : IsBlk w1 (w.heap.size + 2) Try.zeroCells47 47 := IsBlk.below (IsBlk.new _ _ (by simp)) hb1
  have HZ := Aside0.mk Z
  clear Z
  have R_0 := (blk_cell R 0).trans (rv_0 n m seen h)
  have R_1 := (blk_cell R 1).trans (rv_1 n m seen h)
  have R_2 := (blk_cell R 2).trans (rv_2 n m seen h)
  have R_z := fun j => blk_frozen R j
  have R_l := blk_lt R
  have HR := Aside0.mk R
  clear R
  have M_0 := blk_cell M 0
  have M_1 := blk_cell M 1
  have M_2 := blk_cell M 2
  have M_3 := blk_cell M 3
  have M_4 := blk_cell M 4
  have M_5 := blk_cell M 5
  simp only [List.getElem?_toArray, List.getElem?_cons_zero, List.getElem?_cons_succ] at M_0 M_1 M_2 M_3 M_4 M_5
  have M_z0 := blk_frozen M 0
  have M_z1 := blk_frozen M 1
  have M_z2 := blk_frozen M 2
  have M_z3 := blk_frozen M 3
  have M_z4 := blk_frozen M 4
  have M_z5 := blk_frozen M 5
  have M_l := blk_lt M
  have HM := Aside0.mk M
  clear M
  have n0 := Aside0.mk (below_step (by repeat (first | (with_reducible first | exact HB.out | apply below_alloc | apply pw_below_drewN | apply below_drew1) | refine below_set ?_ (by omega))) hb1)
  clear HB hb1
  have HB := n0
  clear n0
  go_wp2_with ((with_reducible refine wpList_loadW w.heap.size (rv n m seen h) ?_ ?_ (rv_size _ _ _ _) ?_); rfl; (first | exact HR.out | exact HR.out.alloc _))
  refine (own_q n m seen h m3 _ hm.1 hm.2).mono ?_
  rw [HOW.out]
  rintro e w2 ⟨rfl, hb1⟩
  have R' : IsBlk w2 w.heap.size (rv n m seen h) 47 := IsBlk.below (by repeat (with_reducible first | exact HR.out | apply IsBlk.alloc | apply IsBlk.drewN | apply IsBlk.drew)) hb1
  have Z' : IsBlk w2 (w.heap.size + 2) Try.zeroCells47 47 := IsBlk.below (by repeat (with_reducible first | exact HZ.out | apply IsBlk.alloc | apply IsBlk.drewN | apply IsBlk.drew)) hb1
  have M' := IsBlk.below (by repeat (with_reducible first | exact HM.out | apply IsBlk.alloc | apply IsBlk.drewN | apply IsBlk.drew)) hb1
  clear R_0 R_1 R_2 R_z R_l HR
  clear M_0 M_1 M_2 M_3 M_4 M_5 M_z0 M_z1 M_z2 M_z3 M_z4 M_z5 M_l HM
  clear HZ
  have R := R'
  have M := M'
  have HZ := Aside0.mk Z'
  clear R' M' Z'
  have R_0 := (blk_cell R 0).trans (rv_0 n m seen h)
  have R_1 := (blk_cell R 1).trans (rv_1 n m seen h)
  have R_2 := (blk_cell R 2).trans (rv_2 n m seen h)
  have R_z := fun j => blk_frozen R j
  have R_l := blk_lt R
  have HR := Aside0.mk R
  clear R
  have M_0 := blk_cell M 0
  have M_1 := blk_cell M 1
  have M_2 := blk_cell M 2
  have M_3 := blk_cell M 3
  have M_4 := blk_cell M 4
  have M_5 := blk_cell M 5
  simp only [List.getElem?_toArray, List.getElem?_cons_zero, List.getElem?_cons_succ] at M_0 M_1 M_2 M_3 M_4 M_5
  have M_z0 := blk_frozen M 0
  have M_z1 := blk_frozen M 1
  have M_z2 := blk_frozen M 2
  have M_z3 := blk_frozen M 3
  have M_z4 := blk_frozen M 4
  have M_z5 := blk_frozen M 5
  have M_l := blk_lt M
  have HM := Aside0.mk M
  clear M
  have n0 := Aside0.mk (below_step (by repeat (first | (with_reducible first | exact HB.out | apply below_alloc | apply pw_below_drewN | apply below_drew1) | refine below_set ?_ (by omega))) hb1)
  clear HB hb1
  have HB := n0
  clear n0
  go_wp2_with (first | ((with_reducible refine wpList_loadW w.heap.size (rv n m seen h) ?_ ?_ (rv_size _ _ _ _) ?_); rfl; (first | exact HR.out | exact HR.out.alloc _)) | ((with_reducible refine wpList_storeW (w.heap.size + 2) Try.zeroCells47 (rv n m seen h) ?_ ?_ ?_ z67_size (rv_size _ _ _ _) (rv_one _ _ _ _) ?_); rfl; rfl; exact HZ.out; intro w9 hb9 hg9))
  refine retW Try.results30 (w.heap.size + 2) (rv n m seen h) _ rfl rfl hb9 (rv_size _ _ _ _) rfl ⟨rfl, ?_⟩
  exact below_of_new HB.out hg9 (by omega) HB.out.size
theorem ap_old (n m seen : Int) (h : Nat → Sl) (m0 m1 m2 m3 m4 m5 : Int) (w : World) (hm : 1 ≤ m ∧ m ≤ 16) (hr : rightM m0 m1 m2 m3 m4 m5 = true) (hx : (m0 != 1) = false) (ho : ownB n m m3 = true) (h3 : decide (m1 < seen) = true) : Calls Try.prog 30 #[.agg (rv n m seen h), .agg #[.int .i64 m0, .int .i64 m1, .int .i64 m2, .int .i64 m3, .int .i64 m4, .int .i64 m5]] w fun e w' => e = .returned (.tuple #[.agg (rv n m seen h), .int .i64 8]) ∧ Below w.heap.size w w' := by
  have HRR := Aside0.mk hr
  have HOW := Aside0.mk ho
  clear hr ho
  have HB := Aside0.mk (Below.refl w.heap.size w)
  go_enter Try.func30, Try.ntmps30
  go_wp2_with fail
  refine (right_q m0 m1 m2 m3 m4 m5 _).mono ?_
  rw [HRR.out]
  rintro e w1 ⟨rfl, hb1⟩
  have R : IsBlk w1 w.heap.size (rv n m seen h) 47 := IsBlk.below (IsBlk.alloc (IsBlk.alloc (IsBlk.new _ _ rfl) _) _) hb1
  have M : IsBlk w1 (w.heap.size + 1) #[.int .i64 m0, .int .i64 m1, .int .i64 m2, .int .i64 m3, .int .i64 m4, .int .i64 m5] 26 := IsBlk.below (IsBlk.alloc (IsBlk.new _ _ (by simp)) _) hb1
  have Z : IsBlk w1 (w.heap.size + 2) Try.zeroCells47 47 := IsBlk.below (IsBlk.new _ _ (by simp)) hb1
  have HZ := Aside0.mk Z
  clear Z
  have R_0 := (blk_cell R 0).trans (rv_0 n m seen h)
  have R_1 := (blk_cell R 1).trans (rv_1 n m seen h)
  have R_2 := (blk_cell R 2).trans (rv_2 n m seen h)
  have R_z := fun j => blk_frozen R j
  have R_l := blk_lt R
  have HR := Aside0.mk R
  clear R
  have M_0 := blk_cell M 0
  have M_1 := blk_cell M 1
  have M_2 := blk_cell M 2
  have M_3 := blk_cell M 3
  have M_4 := blk_cell M 4
  have M_5 := blk_cell M 5
  simp only [List.getElem?_toArray, List.getElem?_cons_zero, List.getElem?_cons_succ] at M_0 M_1 M_2 M_3 M_4 M_5
  have M_z0 := blk_frozen M 0
  have M_z1 := blk_frozen M 1
  have M_z2 := blk_frozen M 2
  have M_z3 := blk_frozen M 3
  have M_z4 := blk_frozen M 4
  have M_z5 := blk_frozen M 5
  have M_l := blk_lt M
  have HM := Aside0.mk M
  clear M
  have n0 := Aside0.mk (below_step (by repeat (first | (with_reducible first | exact HB.out | apply below_alloc | apply pw_below_drewN | apply below_drew1) | refine below_set ?_ (by omega))) hb1)
  clear HB hb1
  have HB := n0
  clear n0
  go_wp2_with ((with_reducible refine wpList_loadW w.heap.size (rv n m seen h) ?_ ?_ (rv_size _ _ _ _) ?_); rfl; (first | exact HR.out | exact HR.out.alloc _))
  refine (own_q n m seen h m3 _ hm.1 hm.2).mono ?_
  rw [HOW.out]
  rintro e w2 ⟨rfl, hb1⟩
  have R' : IsBlk w2 w.heap.size (rv n m seen h) 47 := IsBlk.below (by repeat (with_reducible first | exact HR.out | apply IsBlk.alloc | apply IsBlk.drewN | apply IsBlk.drew)) hb1
  have Z' : IsBlk w2 (w.heap.size + 2) Try.zeroCells47 47 := IsBlk.below (by repeat (with_reducible first | exact HZ.out | apply IsBlk.alloc | apply IsBlk.drewN | apply IsBlk.drew)) hb1
  have M' := IsBlk.below (by repeat (with_reducible first | exact HM.out | apply IsBlk.alloc | apply IsBlk.drewN | apply IsBlk.drew)) hb1
  clear R_0 R_1 R_2 R_z R_l HR
  clear M_0 M_1 M_2 M_3 M_4 M_5 M_z0 M_z1 M_z2 M_z3 M_z4 M_z5 M_l HM
  clear HZ
  have R := R'
  have M := M'
  have HZ := Aside0.mk Z'
  clear R' M' Z'
  have R_0 := (blk_cell R 0).trans (rv_0 n m seen h)
  have R_1 := (blk_cell R 1).trans (rv_1 n m seen h)
  have R_2 := (blk_cell R 2).trans (rv_2 n m seen h)
  have R_z := fun j => blk_frozen R j
  have R_l := blk_lt R
  have HR := Aside0.mk R
  clear R
  have M_0 := blk_cell M 0
  have M_1 := blk_cell M 1
  have M_2 := blk_cell M 2
  have M_3 := blk_cell M 3
  have M_4 := blk_cell M 4
  have M_5 := blk_cell M 5
  simp only [List.getElem?_toArray, List.getElem?_cons_zero, List.getElem?_cons_succ] at M_0 M_1 M_2 M_3 M_4 M_5
  have M_z0 := blk_frozen M 0
  have M_z1 := blk_frozen M 1
  have M_z2 := blk_frozen M 2
  have M_z3 := blk_frozen M 3
  have M_z4 := blk_frozen M 4
  have M_z5 := blk_frozen M 5
  have M_l := blk_lt M
  have HM := Aside0.mk M
  clear M
  have n0 := Aside0.mk (below_step (by repeat (first | (with_reducible first | exact HB.out | apply below_alloc | apply pw_below_drewN | apply below_drew1) | refine below_set ?_ (by omega))) hb1)
  clear HB hb1
  have HB := n0
  clear n0
  go_wp2_with (first | ((with_reducible refine wpList_loadW w.heap.size (rv n m seen h) ?_ ?_ (rv_size _ _ _ _) ?_); rfl; (first | exact HR.out | exact HR.out.alloc _)) | ((with_reducible refine wpList_storeW (w.heap.size + 2) Try.zeroCells47 (rv n m seen h) ?_ ?_ ?_ z67_size (rv_size _ _ _ _) (rv_one _ _ _ _) ?_); rfl; rfl; exact HZ.out; intro w9 hb9 hg9))
  refine retW Try.results30 (w.heap.size + 2) (rv n m seen h) _ rfl rfl hb9 (rv_size _ _ _ _) rfl ⟨rfl, ?_⟩
  exact below_of_new HB.out hg9 (by omega) HB.out.size
theorem far4 {W : World} {g s : Nat} {cs : Array Value} {t : TypeId} (h : IsBlk W g cs t) (hn : g ≠ s) (a b c d : Value) : IsBlk ((((W.setCell ⟨s, 0, none⟩ a).setCell ⟨s, 1, none⟩ b).setCell ⟨s, 2, none⟩ c).setCell ⟨s, 3, none⟩ d) g cs t := (((h.far hn a).far hn b).far hn c).far hn d
theorem far4' {W : World} {g s o : Nat} {cs : Array Value} {t : TypeId} (h : IsBlk W g cs t) (hn : g ≠ s) (a b c d : Value) : IsBlk ((((W.setCell ⟨s, o, none⟩ a).setCell ⟨s, o + 1, none⟩ b).setCell ⟨s, o + 2, none⟩ c).setCell ⟨s, o + 3, none⟩ d) g cs t := (((h.far hn a).far hn b).far hn c).far hn d
theorem below4 {a0 W : World} {s : Nat} (h : Below a0.heap.size a0 W) (hn : a0.heap.size ≤ s) (a b c d : Value) : Below a0.heap.size a0 ((((W.setCell ⟨s, 0, none⟩ a).setCell ⟨s, 1, none⟩ b).setCell ⟨s, 2, none⟩ c).setCell ⟨s, 3, none⟩ d) := below_set (below_set (below_set (below_set h hn) hn) hn) hn
theorem below4' {a0 W : World} {s o : Nat} (h : Below a0.heap.size a0 W) (hn : a0.heap.size ≤ s) (a b c d : Value) : Below a0.heap.size a0 ((((W.setCell ⟨s, o, none⟩ a).setCell ⟨s, o + 1, none⟩ b).setCell ⟨s, o + 2, none⟩ c).setCell ⟨s, o + 3, none⟩ d) := below_set (below_set (below_set (below_set h hn) hn) hn) hn
theorem put4 {W : World} {g : Nat} {n m seen : Int} {h : Nat → Sl} (hb : IsBlk W g (rv n m seen h) 47) (u : Nat) (hu : u < 16) (a b c d : Int) : IsBlk ((((W.setCell ⟨g, 3 + u * 4, none⟩ (.int .i64 a)).setCell ⟨g, 3 + u * 4 + 1, none⟩ (.int .i64 b)).setCell ⟨g, 3 + u * 4 + 2, none⟩ (.int .i64 c)).setCell ⟨g, 3 + u * 4 + 3, none⟩ (.int .i64 d)) g (rv n m seen (hupd h u ⟨a, b, c, d⟩)) 47 := by
  rw [← rv_put n m seen h u hu a b c d]
  exact blk_set (blk_set (blk_set (blk_set hb _ _) _ _) _ _) _ _
theorem cell_keep {W w1 : World} {b i : Nat} {v : Value} (hb : Below W.heap.size W w1) (h : W.cell? ⟨b, i, none⟩ = some v) : w1.cell? ⟨b, i, none⟩ = some v :=
  (hb.cell (p := ⟨b, i, none⟩) (World.block_lt_of_cell? W _ h)).trans h
set_option maxRecDepth 100000 in
set_option maxHeartbeats 4000000 in
theorem ap_no (n m seen : Int) (h : Nat → Sl) (m0 m1 m2 m3 m4 m5 : Int) (w : World) (hm : 1 ≤ m ∧ m ≤ 16) (hr : rightM m0 m1 m2 m3 m4 m5 = true) (hx : (m0 != 1) = false) (hu : 0 ≤ m3 ∧ m3 < 16) (ho : ownB n m m3 = true) (h3 : decide (m1 < seen) = false) (a b c d a' b' c' d' : Int) (hs : h m3.toNat = ⟨a, b, c, d⟩) (hw : wants ⟨a, b, c, d⟩ m4 m2 = (⟨a', b', c', d'⟩, false)) : Calls Try.prog 30 #[.agg (rv n m seen h), .agg #[.int .i64 m0, .int .i64 m1, .int .i64 m2, .int .i64 m3, .int .i64 m4, .int .i64 m5]] w fun e w' => e = .returned (.tuple #[.agg (rv n m m1 h), .int .i64 7]) ∧ Below w.heap.size w w' := by
  obtain ⟨hu0, hu1⟩ := hu
  have hc : ∀ w, Calls Try.prog 49 #[S1.sval a b c d, .int .i64 m4, .int .i64 m2] w fun e w' => e = .returned (.tuple #[S1.sval a' b' c' d', .bool false]) ∧ Below w.heap.size w w' := fun w => by
    have hh := S6.rwant_any ⟨a, b, c, d⟩ m4 m2 w
    rw [hw] at hh
    exact hh
  clear hw
  have HS := Aside0.mk hs
  clear hs
  have HU : Aside0 (m3.toNat < 16) := ⟨by omega⟩
  have HRR := Aside0.mk hr
  have HOW := Aside0.mk ho
  clear hr ho
  have HB := Aside0.mk (Below.refl w.heap.size w)
  go_enter Try.func30, Try.ntmps30
  go_wp2_with fail
  refine (right_q m0 m1 m2 m3 m4 m5 _).mono ?_
  rw [HRR.out]
  rintro e w1 ⟨rfl, hb1⟩
  have R : IsBlk w1 w.heap.size (rv n m seen h) 47 := IsBlk.below (IsBlk.alloc (IsBlk.alloc (IsBlk.new _ _ rfl) _) _) hb1
  have M : IsBlk w1 (w.heap.size + 1) #[.int .i64 m0, .int .i64 m1, .int .i64 m2, .int .i64 m3, .int .i64 m4, .int .i64 m5] 26 := IsBlk.below (IsBlk.alloc (IsBlk.new _ _ (by simp)) _) hb1
  have Z : IsBlk w1 (w.heap.size + 2) Try.zeroCells47 47 := IsBlk.below (IsBlk.new _ _ (by simp)) hb1
  have HZ := Aside0.mk Z
  clear Z
  have R_0 := (blk_cell R 0).trans (rv_0 n m seen h)
  have R_1 := (blk_cell R 1).trans (rv_1 n m seen h)
  have R_2 := (blk_cell R 2).trans (rv_2 n m seen h)
  have R_z := fun j => blk_frozen R j
  have R_l := blk_lt R
  have HR := Aside0.mk R
  clear R
  have M_0 := blk_cell M 0
  have M_1 := blk_cell M 1
  have M_2 := blk_cell M 2
  have M_3 := blk_cell M 3
  have M_4 := blk_cell M 4
  have M_5 := blk_cell M 5
  simp only [List.getElem?_toArray, List.getElem?_cons_zero, List.getElem?_cons_succ] at M_0 M_1 M_2 M_3 M_4 M_5
  have M_z0 := blk_frozen M 0
  have M_z1 := blk_frozen M 1
  have M_z2 := blk_frozen M 2
  have M_z3 := blk_frozen M 3
  have M_z4 := blk_frozen M 4
  have M_z5 := blk_frozen M 5
  have M_l := blk_lt M
  have HM := Aside0.mk M
  clear M
  have n0 := Aside0.mk (below_step (by repeat (first | (with_reducible first | exact HB.out | apply below_alloc | apply pw_below_drewN | apply below_drew1) | refine below_set ?_ (by omega))) hb1)
  clear HB hb1
  have HB := n0
  clear n0
  go_wp2_with ((with_reducible refine wpList_loadW w.heap.size (rv n m seen h) ?_ ?_ (rv_size _ _ _ _) ?_); rfl; (first | exact HR.out | exact HR.out.alloc _))
  refine (own_q n m seen h m3 _ hm.1 hm.2).mono ?_
  rw [HOW.out]
  rintro e w2 ⟨rfl, hb1⟩
  have R' : IsBlk w2 w.heap.size (rv n m seen h) 47 := IsBlk.below (by repeat (with_reducible first | exact HR.out | apply IsBlk.alloc | apply IsBlk.drewN | apply IsBlk.drew)) hb1
  have Z' : IsBlk w2 (w.heap.size + 2) Try.zeroCells47 47 := IsBlk.below (by repeat (with_reducible first | exact HZ.out | apply IsBlk.alloc | apply IsBlk.drewN | apply IsBlk.drew)) hb1
  have M' := IsBlk.below (by repeat (with_reducible first | exact HM.out | apply IsBlk.alloc | apply IsBlk.drewN | apply IsBlk.drew)) hb1
  clear R_0 R_1 R_2 R_z R_l HR
  clear M_0 M_1 M_2 M_3 M_4 M_5 M_z0 M_z1 M_z2 M_z3 M_z4 M_z5 M_l HM
  clear HZ
  have R := R'
  have M := M'
  have HZ := Aside0.mk Z'
  clear R' M' Z'
  have R_0 := (blk_cell R 0).trans (rv_0 n m seen h)
  have R_1 := (blk_cell R 1).trans (rv_1 n m seen h)
  have R_2 := (blk_cell R 2).trans (rv_2 n m seen h)
  have R_z := fun j => blk_frozen R j
  have R_l := blk_lt R
  have HR := Aside0.mk R
  clear R
  have M_0 := blk_cell M 0
  have M_1 := blk_cell M 1
  have M_2 := blk_cell M 2
  have M_3 := blk_cell M 3
  have M_4 := blk_cell M 4
  have M_5 := blk_cell M 5
  simp only [List.getElem?_toArray, List.getElem?_cons_zero, List.getElem?_cons_succ] at M_0 M_1 M_2 M_3 M_4 M_5
  have M_z0 := blk_frozen M 0
  have M_z1 := blk_frozen M 1
  have M_z2 := blk_frozen M 2
  have M_z3 := blk_frozen M 3
  have M_z4 := blk_frozen M 4
  have M_z5 := blk_frozen M 5
  have M_l := blk_lt M
  have HM := Aside0.mk M
  clear M
  have n0 := Aside0.mk (below_step (by repeat (first | (with_reducible first | exact HB.out | apply below_alloc | apply pw_below_drewN | apply below_drew1) | refine below_set ?_ (by omega))) hb1)
  clear HB hb1
  have HB := n0
  clear n0
  go_upto_region 10 with ((with_reducible refine wpList_loadW w.heap.size (rv n m seen h) ?_ ?_ (rv_size _ _ _ _) ?_); rfl; (first | exact HR.out | exact HR.out.alloc _))
  have R' : IsBlk (w2.setCell ⟨w.heap.size, 2, none⟩ (.int .i64 m1)) w.heap.size (rv n m m1 h) 47 := by rw [← rv_seen n m seen h m1]; exact blk_set HR.out 2 _
  have M' : IsBlk (w2.setCell ⟨w.heap.size, 2, none⟩ (.int .i64 m1)) (w.heap.size + 1) #[.int .i64 m0, .int .i64 m1, .int .i64 m2, .int .i64 m3, .int .i64 m4, .int .i64 m5] 26 := HM.out.far (show w.heap.size + 1 ≠ w.heap.size by omega) _
  have Z' : IsBlk (w2.setCell ⟨w.heap.size, 2, none⟩ (.int .i64 m1)) (w.heap.size + 2) Try.zeroCells47 47 := HZ.out.far (show w.heap.size + 2 ≠ w.heap.size by omega) _
  have HB' : Aside0 (Below w.heap.size w (w2.setCell ⟨w.heap.size, 2, none⟩ (.int .i64 m1))) := ⟨below_set HB.out (Nat.le_refl _)⟩
  clear R_0 R_1 R_2 R_z R_l HR
  clear M_0 M_1 M_2 M_3 M_4 M_5 M_z0 M_z1 M_z2 M_z3 M_z4 M_z5 M_l HM
  clear HZ HB
  generalize (w2.setCell ⟨w.heap.size, 2, none⟩ (.int .i64 m1)) = w3 at *
  have R := R'
  have M := M'
  have HZ := Aside0.mk Z'
  have HB := HB'
  clear R' M' Z' HB'
  have M_0 := blk_cell M 0
  have M_1 := blk_cell M 1
  have M_2 := blk_cell M 2
  have M_3 := blk_cell M 3
  have M_4 := blk_cell M 4
  have M_5 := blk_cell M 5
  simp only [List.getElem?_toArray, List.getElem?_cons_zero, List.getElem?_cons_succ] at M_0 M_1 M_2 M_3 M_4 M_5
  have M_z0 := blk_frozen M 0
  have M_z1 := blk_frozen M 1
  have M_z2 := blk_frozen M 2
  have M_z3 := blk_frozen M 3
  have M_z4 := blk_frozen M 4
  have M_z5 := blk_frozen M 5
  have M_l := blk_lt M
  have HM := Aside0.mk M
  clear M
  have R_a := (blk_cell R (3 + m3.toNat * 4 + 0)).trans (rv_u n m m1 h m3.toNat 0 HU.out (by decide))
  have R_b := (blk_cell R (3 + m3.toNat * 4 + 1)).trans (rv_u n m m1 h m3.toNat 1 HU.out (by decide))
  have R_c := (blk_cell R (3 + m3.toNat * 4 + 2)).trans (rv_u n m m1 h m3.toNat 2 HU.out (by decide))
  have R_d := (blk_cell R (3 + m3.toNat * 4 + 3)).trans (rv_u n m m1 h m3.toNat 3 HU.out (by decide))
  rw [HS.out] at R_a R_b R_c R_d
  rw [Nat.add_zero] at R_a
  replace R_a : w3.cell? ⟨w.heap.size, 3 + m3.toNat * 4, none⟩ = some (.int .i64 a) := R_a
  replace R_b : w3.cell? ⟨w.heap.size, 3 + m3.toNat * 4 + 1, none⟩ = some (.int .i64 b) := R_b
  replace R_c : w3.cell? ⟨w.heap.size, 3 + m3.toNat * 4 + 2, none⟩ = some (.int .i64 c) := R_c
  replace R_d : w3.cell? ⟨w.heap.size, 3 + m3.toNat * 4 + 3, none⟩ = some (.int .i64 d) := R_d
  have HR := Aside0.mk R
  clear R
  refine start_ (n := 16) (S := fun w' => w'.cell? ⟨w.heap.size + 1, 2, none⟩ = some (.int .i64 m2) ∧ w'.cell? ⟨w.heap.size + 1, 3, none⟩ = some (.int .i64 m3) ∧ w'.cell? ⟨w.heap.size + 1, 4, none⟩ = some (.int .i64 m4) ∧ w'.cell? ⟨w.heap.size, 3 + m3.toNat * 4, none⟩ = some (.int .i64 a) ∧ w'.cell? ⟨w.heap.size, 3 + m3.toNat * 4 + 1, none⟩ = some (.int .i64 b) ∧ w'.cell? ⟨w.heap.size, 3 + m3.toNat * 4 + 2, none⟩ = some (.int .i64 c) ∧ w'.cell? ⟨w.heap.size, 3 + m3.toNat * 4 + 3, none⟩ = some (.int .i64 d)) (ds := [14]) #[false, false, false, false, false, false, false, false, false, false, false, false, false, false, false, false] (by kernel_rfl) rfl rfl ⟨M_2, M_3, M_4, R_a, R_b, R_c, R_d⟩ (fun hHeld => ?_)
  refine pure_ (i := 0) (N := some 37) (v := ?_) (a' := ?_) #[true, false, false, false, false, false, false, false, false, false, false, false, false, false, false, false] rfl rfl (by kernel_rfl) (fun _ _ _ h => h) (Or.inl ⟨by rfl, ?_⟩) ?_ ?_
  rotate_left
  · intro w'
    go_simp
    with_reducible rfl
  rotate_left
  · simp only [Act.put, List.setIfInBounds_toArray, List.set_cons_zero, List.set_cons_succ, i64_w, i32_w]
    rfl
  refine pure_ (i := 2) (N := some 39) (v := ?_) (a' := ?_) #[true, false, true, false, false, false, false, false, false, false, false, false, false, false, false, false] rfl rfl (by kernel_rfl) (fun _ _ _ h => h) (Or.inl ⟨by rfl, ?_⟩) ?_ ?_
  rotate_left
  · intro w'
    go_simp
    with_reducible rfl
  rotate_left
  · simp only [Act.put, List.setIfInBounds_toArray, List.set_cons_zero, List.set_cons_succ, i64_w, i32_w]
    rfl
  refine pure_ (i := 5) (N := some 42) (v := ?_) (a' := ?_) #[true, false, true, false, false, true, false, false, false, false, false, false, false, false, false, false] rfl rfl (by kernel_rfl) (fun _ _ _ h => h) (Or.inl ⟨by rfl, ?_⟩) ?_ ?_
  rotate_left
  · intro w'
    go_simp
    with_reducible rfl
  rotate_left
  · simp only [Act.put, List.setIfInBounds_toArray, List.set_cons_zero, List.set_cons_succ, i64_w, i32_w]
    rfl
  refine pure_ (i := 7) (N := some 44) (v := ?_) (a' := ?_) #[true, false, true, false, false, true, false, true, false, false, false, false, false, false, false, false] rfl rfl (by kernel_rfl) (fun _ _ _ h => h) (Or.inl ⟨by rfl, ?_⟩) ?_ ?_
  rotate_left
  · intro w'
    go_simp
    with_reducible rfl
  rotate_left
  · simp only [Act.put, List.setIfInBounds_toArray, List.set_cons_zero, List.set_cons_succ, i64_w, i32_w]
    rfl
  refine take_ (i := 1) (N := some 38) (v := ?_) (a' := ?_) #[true, true, true, false, false, true, false, true, false, false, false, false, false, false, false, false] rfl rfl (by kernel_rfl) (fun _ _ _ h => h) (Or.inl ⟨by rfl, ?_⟩) hHeld ?_ ?_
  rotate_left
  · rintro w' ⟨s0, s1, s2, s3, s4, s5, s6⟩
    go_simp
    with_reducible rfl
  rotate_left
  · simp only [Act.put, List.setIfInBounds_toArray, List.set_cons_zero, List.set_cons_succ, i64_w, i32_w]
    rfl
  refine pure_ (i := 3) (N := some 40) (v := ?_) (a' := ?_) #[true, true, true, true, false, true, false, true, false, false, false, false, false, false, false, false] rfl rfl (by kernel_rfl) (fun _ _ _ h => h) (Or.inl ⟨by rfl, ?_⟩) ?_ ?_
  rotate_left
  · intro w'
    go_simp
    with_reducible rfl
  rotate_left
  · simp only [Act.put, List.setIfInBounds_toArray, List.set_cons_zero, List.set_cons_succ, i64_w, i32_w]
    rfl
  refine take_ (i := 4) (N := some 41) (v := ?_) (a' := ?_) #[true, true, true, true, true, true, false, true, false, false, false, false, false, false, false, false] rfl rfl (by kernel_rfl) (fun _ _ _ h => h) (Or.inl ⟨by rfl, ?_⟩) hHeld ?_ ?_
  rotate_left
  · rintro w' ⟨s0, s1, s2, s3, s4, s5, s6⟩
    go_simp
    with_reducible rfl
  rotate_left
  · simp only [Act.put, List.setIfInBounds_toArray, List.set_cons_zero, List.set_cons_succ, i64_w, i32_w]
    rfl
  refine take_ (i := 6) (N := some 43) (v := ?_) (a' := ?_) #[true, true, true, true, true, true, true, true, false, false, false, false, false, false, false, false] rfl rfl (by kernel_rfl) (fun _ _ _ h => h) (Or.inl ⟨by rfl, ?_⟩) hHeld ?_ ?_
  rotate_left
  · rintro w' ⟨s0, s1, s2, s3, s4, s5, s6⟩
    go_simp
    with_reducible rfl
  rotate_left
  · simp only [Act.put, List.setIfInBounds_toArray, List.set_cons_zero, List.set_cons_succ, i64_w, i32_w]
    rfl
  refine take_ (i := 8) (N := some 45) (v := ?_) (a' := ?_) #[true, true, true, true, true, true, true, true, true, false, false, false, false, false, false, false] rfl rfl (by kernel_rfl) (fun _ _ _ h => h) (Or.inl ⟨by rfl, ?_⟩) hHeld ?_ ?_
  rotate_left
  · rintro w' ⟨s0, s1, s2, s3, s4, s5, s6⟩
    go_simp
    with_reducible rfl
  rotate_left
  · simp only [Act.put, List.setIfInBounds_toArray, List.set_cons_zero, List.set_cons_succ, i64_w, i32_w]
    rfl
  refine join_ (σ := Nat) 2 #[true, true, true, true, true, true, true, true, true, true, true, true, true, true, false, false] (fun s => [(46, (.tuple #[S1.sval a' b' c' d', .bool false])), (8, .pointer (some ⟨s, 0, none⟩)), (36, (.tuple #[S1.sval a' b' c' d', .bool false])), (47, S1.sval a' b' c' d'), (48, .bool false)]) (fun s w' => (w'.cell? ⟨w.heap.size + 1, 2, none⟩ = some (.int .i64 m2) ∧ w'.cell? ⟨w.heap.size + 1, 3, none⟩ = some (.int .i64 m3) ∧ w'.cell? ⟨w.heap.size + 1, 4, none⟩ = some (.int .i64 m4) ∧ w'.cell? ⟨w.heap.size, 3 + m3.toNat * 4, none⟩ = some (.int .i64 a) ∧ w'.cell? ⟨w.heap.size, 3 + m3.toNat * 4 + 1, none⟩ = some (.int .i64 b) ∧ w'.cell? ⟨w.heap.size, 3 + m3.toNat * 4 + 2, none⟩ = some (.int .i64 c) ∧ w'.cell? ⟨w.heap.size, 3 + m3.toNat * 4 + 3, none⟩ = some (.int .i64 d)) ∧ IsBlk w' s #[.int .i64 0, .int .i64 0, .int .i64 0, .int .i64 0] 44 ∧ w.heap.size + 2 < s ∧ IsBlk w' w.heap.size (rv n m m1 h) 47 ∧ IsBlk w' (w.heap.size + 1) #[.int .i64 m0, .int .i64 m1, .int .i64 m2, .int .i64 m3, .int .i64 m4, .int .i64 m5] 26 ∧ IsBlk w' (w.heap.size + 2) Try.zeroCells47 47 ∧ Below w.heap.size w w') ?_ ?_
  rotate_left
  · intro hCont
    refine two_ (i := 9) (j := 13) (Ni := some 46) (Nj := some 8) #[true, true, true, true, true, true, true, true, true, true, false, false, false, false, false, false] #[true, true, true, true, true, true, true, true, true, false, false, false, false, true, false, false] rfl rfl rfl rfl (by kernel_rfl) (by simp) (by simp) (fun K hK => ?_) (fun K hK => ?_)
    · skip
      refine goes_ Try.func49 (by kernel_rfl) rfl #[S1.sval a b c d, .int .i64 m4, .int .i64 m2] (by rfl) rfl rfl (by simp only [List.map_toArray, List.map_cons, List.map_nil]; rfl) ?_
      with_reducible refine (hc _).mono ?_
      rintro e y9 ⟨rfl, hb1⟩
      have HRn : Aside0 (IsBlk y9 w.heap.size (rv n m m1 h) 47) := ⟨IsBlk.below (by repeat (with_reducible first | exact HR.out | apply IsBlk.alloc | apply IsBlk.drew)) hb1⟩
      have HMn : Aside0 (IsBlk y9 (w.heap.size + 1) #[.int .i64 m0, .int .i64 m1, .int .i64 m2, .int .i64 m3, .int .i64 m4, .int .i64 m5] 26) := ⟨IsBlk.below (by repeat (with_reducible first | exact HM.out | apply IsBlk.alloc | apply IsBlk.drew)) hb1⟩
      have HZn : Aside0 (IsBlk y9 (w.heap.size + 2) Try.zeroCells47 47) := ⟨IsBlk.below (by repeat (with_reducible first | exact HZ.out | apply IsBlk.alloc | apply IsBlk.drew)) hb1⟩
      have HBn : Aside0 (Below w.heap.size w y9) := ⟨below_step (by repeat (with_reducible first | exact HB.out | apply But2.alloc | apply But2.drew | apply below_alloc | apply below_drew1)) hb1⟩
      clear HR
      have HR := HRn
      clear HRn
      clear HM
      have HM := HMn
      clear HMn
      clear HZ
      have HZ := HZn
      clear HZn
      clear HB
      have HB := HBn
      clear HBn
      refine ⟨_, rfl, ?_⟩
      refine hK.out _ _ ⟨cell_keep hb1 hHeld.1, cell_keep hb1 hHeld.2.1, cell_keep hb1 hHeld.2.2.1, cell_keep hb1 hHeld.2.2.2.1, cell_keep hb1 hHeld.2.2.2.2.1, cell_keep hb1 hHeld.2.2.2.2.2.1, cell_keep hb1 hHeld.2.2.2.2.2.2⟩ (fun hHeld => ?_)
      clear hK K
      refine norm_ (a' := ?_) ?_ ?_
      rotate_left
      · show Act.put _ (some 46) _ = _
        simp only [Act.put, List.setIfInBounds_toArray, List.set_cons_zero, List.set_cons_succ, i64_w, i32_w]
        rfl
      refine pure_ (i := 10) (N := some 36) (v := ?_) (a' := ?_) #[true, true, true, true, true, true, true, true, true, true, true, false, false, false, false, false] rfl rfl (by kernel_rfl) (fun _ _ _ h => h) (Or.inl ⟨by rfl, ?_⟩) ?_ ?_
      rotate_left
      · intro w'
        go_simp
        with_reducible rfl
      rotate_left
      · simp only [Act.put, List.setIfInBounds_toArray, List.set_cons_zero, List.set_cons_succ, i64_w, i32_w]
        rfl
      refine pure_ (i := 11) (N := some 47) (v := ?_) (a' := ?_) #[true, true, true, true, true, true, true, true, true, true, true, true, false, false, false, false] rfl rfl (by kernel_rfl) (fun _ _ _ h => h) (Or.inl ⟨by rfl, ?_⟩) ?_ ?_
      rotate_left
      · intro w'
        go_simp
        with_reducible rfl
      rotate_left
      · simp only [Act.put, List.setIfInBounds_toArray, List.set_cons_zero, List.set_cons_succ, i64_w, i32_w]
        rfl
      refine pure_ (i := 12) (N := some 48) (v := ?_) (a' := ?_) #[true, true, true, true, true, true, true, true, true, true, true, true, true, false, false, false] rfl rfl (by kernel_rfl) (fun _ _ _ h => h) (Or.inl ⟨by rfl, ?_⟩) ?_ ?_
      rotate_left
      · intro w'
        go_simp
        with_reducible rfl
      rotate_left
      · simp only [Act.put, List.setIfInBounds_toArray, List.set_cons_zero, List.set_cons_succ, i64_w, i32_w]
        rfl
      refine one_ (i := 13) (N := some 8) #[true, true, true, true, true, true, true, true, true, true, true, true, true, true, false, false] rfl rfl (by kernel_rfl) (by simp) (fun K hK => ?_)
      refine value_ (w1 := ?_) (v := ?_) (by rfl) rfl ?_ ?_
      rotate_left 2
      · go_simp
        constructor
        · rfl
        · rfl
      have HN := Aside0.mk (show IsBlk (y9.alloc (.cells #[.int .i64 0, .int .i64 0, .int .i64 0, .int .i64 0] 44)) y9.heap.size #[.int .i64 0, .int .i64 0, .int .i64 0, .int .i64 0] 44 from IsBlk.new _ _ rfl)
      have HLN := Aside0.mk (show w.heap.size + 2 < y9.heap.size from blk_lt (show IsBlk y9 (w.heap.size + 2) Try.zeroCells47 47 from by repeat (with_reducible first | exact HZ.out | apply IsBlk.alloc | apply IsBlk.drew)))
      refine hK.out _ _ ⟨cell_keep (below_alloc (Below.refl _ _) _) hHeld.1, cell_keep (below_alloc (Below.refl _ _) _) hHeld.2.1, cell_keep (below_alloc (Below.refl _ _) _) hHeld.2.2.1, cell_keep (below_alloc (Below.refl _ _) _) hHeld.2.2.2.1, cell_keep (below_alloc (Below.refl _ _) _) hHeld.2.2.2.2.1, cell_keep (below_alloc (Below.refl _ _) _) hHeld.2.2.2.2.2.1, cell_keep (below_alloc (Below.refl _ _) _) hHeld.2.2.2.2.2.2⟩ (fun hHeld => ?_)
      clear hK K
      refine norm_ (a' := ?_) ?_ ?_
      rotate_left
      · show Act.put _ (some 8) _ = _
        simp only [Act.put, List.setIfInBounds_toArray, List.set_cons_zero, List.set_cons_succ, i64_w, i32_w]
        rfl
      exact norm_ (by first | (simp only [putAll, Act.put, List.setIfInBounds_toArray, List.set_cons_zero, List.set_cons_succ]; done) | (simp only [putAll, Act.put, List.setIfInBounds_toArray, List.set_cons_zero, List.set_cons_succ]; rfl)) (hCont _ _ ⟨hHeld, by repeat (with_reducible first | exact HN.out | apply IsBlk.alloc | apply IsBlk.drew), HLN.out, by repeat (with_reducible first | exact HR.out | apply IsBlk.alloc | apply IsBlk.drew), by repeat (with_reducible first | exact HM.out | apply IsBlk.alloc | apply IsBlk.drew), by repeat (with_reducible first | exact HZ.out | apply IsBlk.alloc | apply IsBlk.drew), by repeat (with_reducible first | exact HB.out | apply But2.alloc | apply But2.drew | apply below_alloc | apply below_drew1)⟩)
    · skip
      refine value_ (w1 := ?_) (v := ?_) (by rfl) rfl ?_ ?_
      rotate_left 2
      · go_simp
        constructor
        · rfl
        · rfl
      have HN := Aside0.mk (show IsBlk (w3.alloc (.cells #[.int .i64 0, .int .i64 0, .int .i64 0, .int .i64 0] 44)) w3.heap.size #[.int .i64 0, .int .i64 0, .int .i64 0, .int .i64 0] 44 from IsBlk.new _ _ rfl)
      have HLN := Aside0.mk (show w.heap.size + 2 < w3.heap.size from blk_lt (show IsBlk w3 (w.heap.size + 2) Try.zeroCells47 47 from by repeat (with_reducible first | exact HZ.out | apply IsBlk.alloc | apply IsBlk.drew)))
      refine hK.out _ _ ⟨cell_keep (below_alloc (Below.refl _ _) _) hHeld.1, cell_keep (below_alloc (Below.refl _ _) _) hHeld.2.1, cell_keep (below_alloc (Below.refl _ _) _) hHeld.2.2.1, cell_keep (below_alloc (Below.refl _ _) _) hHeld.2.2.2.1, cell_keep (below_alloc (Below.refl _ _) _) hHeld.2.2.2.2.1, cell_keep (below_alloc (Below.refl _ _) _) hHeld.2.2.2.2.2.1, cell_keep (below_alloc (Below.refl _ _) _) hHeld.2.2.2.2.2.2⟩ (fun hHeld => ?_)
      clear hK K
      refine norm_ (a' := ?_) ?_ ?_
      rotate_left
      · show Act.put _ (some 8) _ = _
        simp only [Act.put, List.setIfInBounds_toArray, List.set_cons_zero, List.set_cons_succ, i64_w, i32_w]
        rfl
      refine one_ (i := 9) (N := some 46) #[true, true, true, true, true, true, true, true, true, true, false, false, false, true, false, false] rfl rfl (by kernel_rfl) (by simp) (fun K hK => ?_)
      refine goes_ Try.func49 (by kernel_rfl) rfl #[S1.sval a b c d, .int .i64 m4, .int .i64 m2] (by rfl) rfl rfl (by simp only [List.map_toArray, List.map_cons, List.map_nil]; rfl) ?_
      with_reducible refine (hc _).mono ?_
      rintro e y9 ⟨rfl, hb1⟩
      have HRn : Aside0 (IsBlk y9 w.heap.size (rv n m m1 h) 47) := ⟨IsBlk.below (by repeat (with_reducible first | exact HR.out | apply IsBlk.alloc | apply IsBlk.drew)) hb1⟩
      have HMn : Aside0 (IsBlk y9 (w.heap.size + 1) #[.int .i64 m0, .int .i64 m1, .int .i64 m2, .int .i64 m3, .int .i64 m4, .int .i64 m5] 26) := ⟨IsBlk.below (by repeat (with_reducible first | exact HM.out | apply IsBlk.alloc | apply IsBlk.drew)) hb1⟩
      have HZn : Aside0 (IsBlk y9 (w.heap.size + 2) Try.zeroCells47 47) := ⟨IsBlk.below (by repeat (with_reducible first | exact HZ.out | apply IsBlk.alloc | apply IsBlk.drew)) hb1⟩
      have HBn : Aside0 (Below w.heap.size w y9) := ⟨below_step (by repeat (with_reducible first | exact HB.out | apply But2.alloc | apply But2.drew | apply below_alloc | apply below_drew1)) hb1⟩
      have HNn : Aside0 (IsBlk y9 w3.heap.size #[.int .i64 0, .int .i64 0, .int .i64 0, .int .i64 0] 44) := ⟨IsBlk.below (by repeat (with_reducible first | exact HN.out | apply IsBlk.alloc | apply IsBlk.drew)) hb1⟩
      clear HR
      have HR := HRn
      clear HRn
      clear HM
      have HM := HMn
      clear HMn
      clear HZ
      have HZ := HZn
      clear HZn
      clear HB
      have HB := HBn
      clear HBn
      clear HN
      have HN := HNn
      clear HNn
      refine ⟨_, rfl, ?_⟩
      refine hK.out _ _ ⟨cell_keep hb1 hHeld.1, cell_keep hb1 hHeld.2.1, cell_keep hb1 hHeld.2.2.1, cell_keep hb1 hHeld.2.2.2.1, cell_keep hb1 hHeld.2.2.2.2.1, cell_keep hb1 hHeld.2.2.2.2.2.1, cell_keep hb1 hHeld.2.2.2.2.2.2⟩ (fun hHeld => ?_)
      clear hK K
      refine norm_ (a' := ?_) ?_ ?_
      rotate_left
      · show Act.put _ (some 46) _ = _
        simp only [Act.put, List.setIfInBounds_toArray, List.set_cons_zero, List.set_cons_succ, i64_w, i32_w]
        rfl
      refine pure_ (i := 10) (N := some 36) (v := ?_) (a' := ?_) #[true, true, true, true, true, true, true, true, true, true, true, false, false, true, false, false] rfl rfl (by kernel_rfl) (fun _ _ _ h => h) (Or.inl ⟨by rfl, ?_⟩) ?_ ?_
      rotate_left
      · intro w'
        go_simp
        with_reducible rfl
      rotate_left
      · simp only [Act.put, List.setIfInBounds_toArray, List.set_cons_zero, List.set_cons_succ, i64_w, i32_w]
        rfl
      refine pure_ (i := 11) (N := some 47) (v := ?_) (a' := ?_) #[true, true, true, true, true, true, true, true, true, true, true, true, false, true, false, false] rfl rfl (by kernel_rfl) (fun _ _ _ h => h) (Or.inl ⟨by rfl, ?_⟩) ?_ ?_
      rotate_left
      · intro w'
        go_simp
        with_reducible rfl
      rotate_left
      · simp only [Act.put, List.setIfInBounds_toArray, List.set_cons_zero, List.set_cons_succ, i64_w, i32_w]
        rfl
      refine pure_ (i := 12) (N := some 48) (v := ?_) (a' := ?_) #[true, true, true, true, true, true, true, true, true, true, true, true, true, true, false, false] rfl rfl (by kernel_rfl) (fun _ _ _ h => h) (Or.inl ⟨by rfl, ?_⟩) ?_ ?_
      rotate_left
      · intro w'
        go_simp
        with_reducible rfl
      rotate_left
      · simp only [Act.put, List.setIfInBounds_toArray, List.set_cons_zero, List.set_cons_succ, i64_w, i32_w]
        rfl
      exact norm_ (by first | (simp only [putAll, Act.put, List.setIfInBounds_toArray, List.set_cons_zero, List.set_cons_succ]; done) | (simp only [putAll, Act.put, List.setIfInBounds_toArray, List.set_cons_zero, List.set_cons_succ]; rfl)) (hCont _ _ ⟨hHeld, by repeat (with_reducible first | exact HN.out | apply IsBlk.alloc | apply IsBlk.drew), HLN.out, by repeat (with_reducible first | exact HR.out | apply IsBlk.alloc | apply IsBlk.drew), by repeat (with_reducible first | exact HM.out | apply IsBlk.alloc | apply IsBlk.drew), by repeat (with_reducible first | exact HZ.out | apply IsBlk.alloc | apply IsBlk.drew), by repeat (with_reducible first | exact HB.out | apply But2.alloc | apply But2.drew | apply below_alloc | apply below_drew1)⟩)
  rintro s y ⟨hHeld, hN, hLN, hHR, hHM, hHZ, hHB⟩
  clear HR
  clear HM
  clear HZ
  clear HB
  have HR := Aside0.mk hHR
  have HM := Aside0.mk hHM
  have HZ := Aside0.mk hHZ
  have HB := Aside0.mk hHB
  have HN := Aside0.mk hN
  have HLN := Aside0.mk hLN
  clear hN hLN hHR hHM hHZ hHB
  have N_0 : y.cell? ⟨s, 0, none⟩ = some (.int .i64 0) := blk_cell HN.out 0
  have N_z0 : y.frozen? ⟨s, 0, none⟩ = false := blk_frozen HN.out 0
  have N_1 : y.cell? ⟨s, 1, none⟩ = some (.int .i64 0) := blk_cell HN.out 1
  have N_z1 : y.frozen? ⟨s, 1, none⟩ = false := blk_frozen HN.out 1
  have N_2 : y.cell? ⟨s, 2, none⟩ = some (.int .i64 0) := blk_cell HN.out 2
  have N_z2 : y.frozen? ⟨s, 2, none⟩ = false := blk_frozen HN.out 2
  have N_3 : y.cell? ⟨s, 3, none⟩ = some (.int .i64 0) := blk_cell HN.out 3
  have N_z3 : y.frozen? ⟨s, 3, none⟩ = false := blk_frozen HN.out 3
  refine norm_ (a' := ?_) ?_ ?_
  rotate_left
  · simp only [putAll, Act.put, List.setIfInBounds_toArray, List.set_cons_zero, List.set_cons_succ]
    rfl
  refine last_ (i := 14) (N := none) #[true, true, true, true, true, true, true, true, true, true, true, true, true, true, true, false] rfl rfl (by kernel_rfl) (by simp) (fun K hK => ?_)
  refine skip_ (w1 := ?_) (by rfl) rfl ?_ ?_
  rotate_left
  · go_simp
    rfl
  refine hK.out _ _ ?_
  clear hK K
  refine pure_ (i := 15) (N := some 9) (v := ?_) (a' := ?_) #[true, true, true, true, true, true, true, true, true, true, true, true, true, true, true, true] rfl rfl (by kernel_rfl) (fun _ _ _ h => h) (Or.inl ⟨by rfl, ?_⟩) ?_ ?_
  rotate_left
  · intro w'
    go_simp
    with_reducible rfl
  rotate_left
  · simp only [Act.put, List.setIfInBounds_toArray, List.set_cons_zero, List.set_cons_succ, i64_w, i32_w]
    rfl
  refine done_ (by kernel_rfl) ?_

  have HR4 : Aside0 (IsBlk ((((y.setCell ⟨s, 0, none⟩ (.int .i64 a')).setCell ⟨s, 1, none⟩ (.int .i64 b')).setCell ⟨s, 2, none⟩ (.int .i64 c')).setCell ⟨s, 3, none⟩ (.int .i64 d')) w.heap.size (rv n m m1 h) 47) := ⟨far4 HR.out (by have := HLN.out; omega) _ _ _ _⟩
  have HM4 : Aside0 (IsBlk ((((y.setCell ⟨s, 0, none⟩ (.int .i64 a')).setCell ⟨s, 1, none⟩ (.int .i64 b')).setCell ⟨s, 2, none⟩ (.int .i64 c')).setCell ⟨s, 3, none⟩ (.int .i64 d')) (w.heap.size + 1) #[.int .i64 m0, .int .i64 m1, .int .i64 m2, .int .i64 m3, .int .i64 m4, .int .i64 m5] 26) := ⟨far4 HM.out (by have := HLN.out; omega) _ _ _ _⟩
  have HZ4 : Aside0 (IsBlk ((((y.setCell ⟨s, 0, none⟩ (.int .i64 a')).setCell ⟨s, 1, none⟩ (.int .i64 b')).setCell ⟨s, 2, none⟩ (.int .i64 c')).setCell ⟨s, 3, none⟩ (.int .i64 d')) (w.heap.size + 2) Try.zeroCells47 47) := ⟨far4 HZ.out (by have := HLN.out; omega) _ _ _ _⟩
  have HB4 : Aside0 (Below w.heap.size w ((((y.setCell ⟨s, 0, none⟩ (.int .i64 a')).setCell ⟨s, 1, none⟩ (.int .i64 b')).setCell ⟨s, 2, none⟩ (.int .i64 c')).setCell ⟨s, 3, none⟩ (.int .i64 d'))) := ⟨below4 HB.out (by have := HLN.out; omega) _ _ _ _⟩
  have N : IsBlk ((((y.setCell ⟨s, 0, none⟩ (.int .i64 a')).setCell ⟨s, 1, none⟩ (.int .i64 b')).setCell ⟨s, 2, none⟩ (.int .i64 c')).setCell ⟨s, 3, none⟩ (.int .i64 d')) s #[.int .i64 a', .int .i64 b', .int .i64 c', .int .i64 d'] 44 := blk_set (blk_set (blk_set (blk_set HN.out 0 _) 1 _) 2 _) 3 _
  clear HR HM HZ HB HN N_0 N_1 N_2 N_3 N_z0 N_z1 N_z2 N_z3
  clear M_0 M_1 M_2 M_3 M_4 M_5 M_z0 M_z1 M_z2 M_z3 M_z4 M_z5 M_l R_a R_b R_c R_d
  generalize ((((y.setCell ⟨s, 0, none⟩ (.int .i64 a')).setCell ⟨s, 1, none⟩ (.int .i64 b')).setCell ⟨s, 2, none⟩ (.int .i64 c')).setCell ⟨s, 3, none⟩ (.int .i64 d')) = w5 at *
  have HR := HR4
  have HZ := HZ4
  have HB := HB4
  have M := HM4.out
  clear HR4 HM4 HZ4 HB4
  have M_0 := blk_cell M 0
  have M_1 := blk_cell M 1
  have M_2 := blk_cell M 2
  have M_3 := blk_cell M 3
  have M_4 := blk_cell M 4
  have M_5 := blk_cell M 5
  simp only [List.getElem?_toArray, List.getElem?_cons_zero, List.getElem?_cons_succ] at M_0 M_1 M_2 M_3 M_4 M_5
  have M_z0 := blk_frozen M 0
  have M_z1 := blk_frozen M 1
  have M_z2 := blk_frozen M 2
  have M_z3 := blk_frozen M 3
  have M_z4 := blk_frozen M 4
  have M_z5 := blk_frozen M 5
  have M_l := blk_lt M
  have HM := Aside0.mk M
  clear M
  have N_0 := blk_cell N 0
  have N_1 := blk_cell N 1
  have N_2 := blk_cell N 2
  have N_3 := blk_cell N 3
  simp only [List.getElem?_toArray, List.getElem?_cons_zero, List.getElem?_cons_succ] at N_0 N_1 N_2 N_3
  have N_z0 := blk_frozen N 0
  have N_z1 := blk_frozen N 1
  have N_z2 := blk_frozen N 2
  have N_z3 := blk_frozen N 3
  have N_l := blk_lt N
  have HN := Aside0.mk N
  clear N
  go_wp2_with (first | ((with_reducible refine wpList_loadW w.heap.size (rv n m m1 h) ?_ ?_ (rv_size _ _ _ _) ?_); rfl; (first | exact HR.out | exact HR.out.alloc _)) | ((with_reducible refine wpList_storeW (w.heap.size + 2) Try.zeroCells47 (rv n m m1 h) ?_ ?_ ?_ z67_size (rv_size _ _ _ _) (rv_one _ _ _ _) ?_); rfl; rfl; exact HZ.out; intro w9 hb9 hg9))
  refine retW Try.results30 (w.heap.size + 2) (rv n m m1 h) _ rfl rfl hb9 (rv_size _ _ _ _) rfl ⟨rfl, ?_⟩
  exact below_of_new HB.out hg9 (by omega) HB.out.size
set_option maxRecDepth 100000 in
set_option maxHeartbeats 4000000 in
theorem ap_ok (n m seen : Int) (h : Nat → Sl) (m0 m1 m2 m3 m4 m5 : Int) (w : World) (hm : 1 ≤ m ∧ m ≤ 16) (hr : rightM m0 m1 m2 m3 m4 m5 = true) (hx : (m0 != 1) = false) (hu : 0 ≤ m3 ∧ m3 < 16) (ho : ownB n m m3 = true) (h3 : decide (m1 < seen) = false) (a b c d a' b' c' d' : Int) (hs : h m3.toNat = ⟨a, b, c, d⟩) (hw : wants ⟨a, b, c, d⟩ m4 m2 = (⟨a', b', c', d'⟩, true)) : Calls Try.prog 30 #[.agg (rv n m seen h), .agg #[.int .i64 m0, .int .i64 m1, .int .i64 m2, .int .i64 m3, .int .i64 m4, .int .i64 m5]] w fun e w' => e = .returned (.tuple #[.agg (rv n m m1 (hupd h m3.toNat ⟨a', b', c', d'⟩)), .int .i64 0]) ∧ Below w.heap.size w w' := by
  obtain ⟨hu0, hu1⟩ := hu
  have hc : ∀ w, Calls Try.prog 49 #[S1.sval a b c d, .int .i64 m4, .int .i64 m2] w fun e w' => e = .returned (.tuple #[S1.sval a' b' c' d', .bool true]) ∧ Below w.heap.size w w' := fun w => by
    have hh := S6.rwant_any ⟨a, b, c, d⟩ m4 m2 w
    rw [hw] at hh
    exact hh
  clear hw
  have HS := Aside0.mk hs
  clear hs
  have HU : Aside0 (m3.toNat < 16) := ⟨by omega⟩
  have HRR := Aside0.mk hr
  have HOW := Aside0.mk ho
  clear hr ho
  have HB := Aside0.mk (Below.refl w.heap.size w)
  go_enter Try.func30, Try.ntmps30
  go_wp2_with fail
  refine (right_q m0 m1 m2 m3 m4 m5 _).mono ?_
  rw [HRR.out]
  rintro e w1 ⟨rfl, hb1⟩
  have R : IsBlk w1 w.heap.size (rv n m seen h) 47 := IsBlk.below (IsBlk.alloc (IsBlk.alloc (IsBlk.new _ _ rfl) _) _) hb1
  have M : IsBlk w1 (w.heap.size + 1) #[.int .i64 m0, .int .i64 m1, .int .i64 m2, .int .i64 m3, .int .i64 m4, .int .i64 m5] 26 := IsBlk.below (IsBlk.alloc (IsBlk.new _ _ (by simp)) _) hb1
  have Z : IsBlk w1 (w.heap.size + 2) Try.zeroCells47 47 := IsBlk.below (IsBlk.new _ _ (by simp)) hb1
  have HZ := Aside0.mk Z
  clear Z
  have R_0 := (blk_cell R 0).trans (rv_0 n m seen h)
  have R_1 := (blk_cell R 1).trans (rv_1 n m seen h)
  have R_2 := (blk_cell R 2).trans (rv_2 n m seen h)
  have R_z := fun j => blk_frozen R j
  have R_l := blk_lt R
  have HR := Aside0.mk R
  clear R
  have M_0 := blk_cell M 0
  have M_1 := blk_cell M 1
  have M_2 := blk_cell M 2
  have M_3 := blk_cell M 3
  have M_4 := blk_cell M 4
  have M_5 := blk_cell M 5
  simp only [List.getElem?_toArray, List.getElem?_cons_zero, List.getElem?_cons_succ] at M_0 M_1 M_2 M_3 M_4 M_5
  have M_z0 := blk_frozen M 0
  have M_z1 := blk_frozen M 1
  have M_z2 := blk_frozen M 2
  have M_z3 := blk_frozen M 3
  have M_z4 := blk_frozen M 4
  have M_z5 := blk_frozen M 5
  have M_l := blk_lt M
  have HM := Aside0.mk M
  clear M
  have n0 := Aside0.mk (below_step (by repeat (first | (with_reducible first | exact HB.out | apply below_alloc | apply pw_below_drewN | apply below_drew1) | refine below_set ?_ (by omega))) hb1)
  clear HB hb1
  have HB := n0
  clear n0
  go_wp2_with ((with_reducible refine wpList_loadW w.heap.size (rv n m seen h) ?_ ?_ (rv_size _ _ _ _) ?_); rfl; (first | exact HR.out | exact HR.out.alloc _))
  refine (own_q n m seen h m3 _ hm.1 hm.2).mono ?_
  rw [HOW.out]
  rintro e w2 ⟨rfl, hb1⟩
  have R' : IsBlk w2 w.heap.size (rv n m seen h) 47 := IsBlk.below (by repeat (with_reducible first | exact HR.out | apply IsBlk.alloc | apply IsBlk.drewN | apply IsBlk.drew)) hb1
  have Z' : IsBlk w2 (w.heap.size + 2) Try.zeroCells47 47 := IsBlk.below (by repeat (with_reducible first | exact HZ.out | apply IsBlk.alloc | apply IsBlk.drewN | apply IsBlk.drew)) hb1
  have M' := IsBlk.below (by repeat (with_reducible first | exact HM.out | apply IsBlk.alloc | apply IsBlk.drewN | apply IsBlk.drew)) hb1
  clear R_0 R_1 R_2 R_z R_l HR
  clear M_0 M_1 M_2 M_3 M_4 M_5 M_z0 M_z1 M_z2 M_z3 M_z4 M_z5 M_l HM
  clear HZ
  have R := R'
  have M := M'
  have HZ := Aside0.mk Z'
  clear R' M' Z'
  have R_0 := (blk_cell R 0).trans (rv_0 n m seen h)
  have R_1 := (blk_cell R 1).trans (rv_1 n m seen h)
  have R_2 := (blk_cell R 2).trans (rv_2 n m seen h)
  have R_z := fun j => blk_frozen R j
  have R_l := blk_lt R
  have HR := Aside0.mk R
  clear R
  have M_0 := blk_cell M 0
  have M_1 := blk_cell M 1
  have M_2 := blk_cell M 2
  have M_3 := blk_cell M 3
  have M_4 := blk_cell M 4
  have M_5 := blk_cell M 5
  simp only [List.getElem?_toArray, List.getElem?_cons_zero, List.getElem?_cons_succ] at M_0 M_1 M_2 M_3 M_4 M_5
  have M_z0 := blk_frozen M 0
  have M_z1 := blk_frozen M 1
  have M_z2 := blk_frozen M 2
  have M_z3 := blk_frozen M 3
  have M_z4 := blk_frozen M 4
  have M_z5 := blk_frozen M 5
  have M_l := blk_lt M
  have HM := Aside0.mk M
  clear M
  have n0 := Aside0.mk (below_step (by repeat (first | (with_reducible first | exact HB.out | apply below_alloc | apply pw_below_drewN | apply below_drew1) | refine below_set ?_ (by omega))) hb1)
  clear HB hb1
  have HB := n0
  clear n0
  go_upto_region 10 with ((with_reducible refine wpList_loadW w.heap.size (rv n m seen h) ?_ ?_ (rv_size _ _ _ _) ?_); rfl; (first | exact HR.out | exact HR.out.alloc _))
  have R' : IsBlk (w2.setCell ⟨w.heap.size, 2, none⟩ (.int .i64 m1)) w.heap.size (rv n m m1 h) 47 := by rw [← rv_seen n m seen h m1]; exact blk_set HR.out 2 _
  have M' : IsBlk (w2.setCell ⟨w.heap.size, 2, none⟩ (.int .i64 m1)) (w.heap.size + 1) #[.int .i64 m0, .int .i64 m1, .int .i64 m2, .int .i64 m3, .int .i64 m4, .int .i64 m5] 26 := HM.out.far (show w.heap.size + 1 ≠ w.heap.size by omega) _
  have Z' : IsBlk (w2.setCell ⟨w.heap.size, 2, none⟩ (.int .i64 m1)) (w.heap.size + 2) Try.zeroCells47 47 := HZ.out.far (show w.heap.size + 2 ≠ w.heap.size by omega) _
  have HB' : Aside0 (Below w.heap.size w (w2.setCell ⟨w.heap.size, 2, none⟩ (.int .i64 m1))) := ⟨below_set HB.out (Nat.le_refl _)⟩
  clear R_0 R_1 R_2 R_z R_l HR
  clear M_0 M_1 M_2 M_3 M_4 M_5 M_z0 M_z1 M_z2 M_z3 M_z4 M_z5 M_l HM
  clear HZ HB
  generalize (w2.setCell ⟨w.heap.size, 2, none⟩ (.int .i64 m1)) = w3 at *
  have R := R'
  have M := M'
  have HZ := Aside0.mk Z'
  have HB := HB'
  clear R' M' Z' HB'
  have M_0 := blk_cell M 0
  have M_1 := blk_cell M 1
  have M_2 := blk_cell M 2
  have M_3 := blk_cell M 3
  have M_4 := blk_cell M 4
  have M_5 := blk_cell M 5
  simp only [List.getElem?_toArray, List.getElem?_cons_zero, List.getElem?_cons_succ] at M_0 M_1 M_2 M_3 M_4 M_5
  have M_z0 := blk_frozen M 0
  have M_z1 := blk_frozen M 1
  have M_z2 := blk_frozen M 2
  have M_z3 := blk_frozen M 3
  have M_z4 := blk_frozen M 4
  have M_z5 := blk_frozen M 5
  have M_l := blk_lt M
  have HM := Aside0.mk M
  clear M
  have R_a := (blk_cell R (3 + m3.toNat * 4 + 0)).trans (rv_u n m m1 h m3.toNat 0 HU.out (by decide))
  have R_b := (blk_cell R (3 + m3.toNat * 4 + 1)).trans (rv_u n m m1 h m3.toNat 1 HU.out (by decide))
  have R_c := (blk_cell R (3 + m3.toNat * 4 + 2)).trans (rv_u n m m1 h m3.toNat 2 HU.out (by decide))
  have R_d := (blk_cell R (3 + m3.toNat * 4 + 3)).trans (rv_u n m m1 h m3.toNat 3 HU.out (by decide))
  rw [HS.out] at R_a R_b R_c R_d
  rw [Nat.add_zero] at R_a
  replace R_a : w3.cell? ⟨w.heap.size, 3 + m3.toNat * 4, none⟩ = some (.int .i64 a) := R_a
  replace R_b : w3.cell? ⟨w.heap.size, 3 + m3.toNat * 4 + 1, none⟩ = some (.int .i64 b) := R_b
  replace R_c : w3.cell? ⟨w.heap.size, 3 + m3.toNat * 4 + 2, none⟩ = some (.int .i64 c) := R_c
  replace R_d : w3.cell? ⟨w.heap.size, 3 + m3.toNat * 4 + 3, none⟩ = some (.int .i64 d) := R_d
  have HR := Aside0.mk R
  clear R
  refine start_ (n := 16) (S := fun w' => w'.cell? ⟨w.heap.size + 1, 2, none⟩ = some (.int .i64 m2) ∧ w'.cell? ⟨w.heap.size + 1, 3, none⟩ = some (.int .i64 m3) ∧ w'.cell? ⟨w.heap.size + 1, 4, none⟩ = some (.int .i64 m4) ∧ w'.cell? ⟨w.heap.size, 3 + m3.toNat * 4, none⟩ = some (.int .i64 a) ∧ w'.cell? ⟨w.heap.size, 3 + m3.toNat * 4 + 1, none⟩ = some (.int .i64 b) ∧ w'.cell? ⟨w.heap.size, 3 + m3.toNat * 4 + 2, none⟩ = some (.int .i64 c) ∧ w'.cell? ⟨w.heap.size, 3 + m3.toNat * 4 + 3, none⟩ = some (.int .i64 d)) (ds := [14]) #[false, false, false, false, false, false, false, false, false, false, false, false, false, false, false, false] (by kernel_rfl) rfl rfl ⟨M_2, M_3, M_4, R_a, R_b, R_c, R_d⟩ (fun hHeld => ?_)
  refine pure_ (i := 0) (N := some 37) (v := ?_) (a' := ?_) #[true, false, false, false, false, false, false, false, false, false, false, false, false, false, false, false] rfl rfl (by kernel_rfl) (fun _ _ _ h => h) (Or.inl ⟨by rfl, ?_⟩) ?_ ?_
  rotate_left
  · intro w'
    go_simp
    with_reducible rfl
  rotate_left
  · simp only [Act.put, List.setIfInBounds_toArray, List.set_cons_zero, List.set_cons_succ, i64_w, i32_w]
    rfl
  refine pure_ (i := 2) (N := some 39) (v := ?_) (a' := ?_) #[true, false, true, false, false, false, false, false, false, false, false, false, false, false, false, false] rfl rfl (by kernel_rfl) (fun _ _ _ h => h) (Or.inl ⟨by rfl, ?_⟩) ?_ ?_
  rotate_left
  · intro w'
    go_simp
    with_reducible rfl
  rotate_left
  · simp only [Act.put, List.setIfInBounds_toArray, List.set_cons_zero, List.set_cons_succ, i64_w, i32_w]
    rfl
  refine pure_ (i := 5) (N := some 42) (v := ?_) (a' := ?_) #[true, false, true, false, false, true, false, false, false, false, false, false, false, false, false, false] rfl rfl (by kernel_rfl) (fun _ _ _ h => h) (Or.inl ⟨by rfl, ?_⟩) ?_ ?_
  rotate_left
  · intro w'
    go_simp
    with_reducible rfl
  rotate_left
  · simp only [Act.put, List.setIfInBounds_toArray, List.set_cons_zero, List.set_cons_succ, i64_w, i32_w]
    rfl
  refine pure_ (i := 7) (N := some 44) (v := ?_) (a' := ?_) #[true, false, true, false, false, true, false, true, false, false, false, false, false, false, false, false] rfl rfl (by kernel_rfl) (fun _ _ _ h => h) (Or.inl ⟨by rfl, ?_⟩) ?_ ?_
  rotate_left
  · intro w'
    go_simp
    with_reducible rfl
  rotate_left
  · simp only [Act.put, List.setIfInBounds_toArray, List.set_cons_zero, List.set_cons_succ, i64_w, i32_w]
    rfl
  refine take_ (i := 1) (N := some 38) (v := ?_) (a' := ?_) #[true, true, true, false, false, true, false, true, false, false, false, false, false, false, false, false] rfl rfl (by kernel_rfl) (fun _ _ _ h => h) (Or.inl ⟨by rfl, ?_⟩) hHeld ?_ ?_
  rotate_left
  · rintro w' ⟨s0, s1, s2, s3, s4, s5, s6⟩
    go_simp
    with_reducible rfl
  rotate_left
  · simp only [Act.put, List.setIfInBounds_toArray, List.set_cons_zero, List.set_cons_succ, i64_w, i32_w]
    rfl
  refine pure_ (i := 3) (N := some 40) (v := ?_) (a' := ?_) #[true, true, true, true, false, true, false, true, false, false, false, false, false, false, false, false] rfl rfl (by kernel_rfl) (fun _ _ _ h => h) (Or.inl ⟨by rfl, ?_⟩) ?_ ?_
  rotate_left
  · intro w'
    go_simp
    with_reducible rfl
  rotate_left
  · simp only [Act.put, List.setIfInBounds_toArray, List.set_cons_zero, List.set_cons_succ, i64_w, i32_w]
    rfl
  refine take_ (i := 4) (N := some 41) (v := ?_) (a' := ?_) #[true, true, true, true, true, true, false, true, false, false, false, false, false, false, false, false] rfl rfl (by kernel_rfl) (fun _ _ _ h => h) (Or.inl ⟨by rfl, ?_⟩) hHeld ?_ ?_
  rotate_left
  · rintro w' ⟨s0, s1, s2, s3, s4, s5, s6⟩
    go_simp
    with_reducible rfl
  rotate_left
  · simp only [Act.put, List.setIfInBounds_toArray, List.set_cons_zero, List.set_cons_succ, i64_w, i32_w]
    rfl
  refine take_ (i := 6) (N := some 43) (v := ?_) (a' := ?_) #[true, true, true, true, true, true, true, true, false, false, false, false, false, false, false, false] rfl rfl (by kernel_rfl) (fun _ _ _ h => h) (Or.inl ⟨by rfl, ?_⟩) hHeld ?_ ?_
  rotate_left
  · rintro w' ⟨s0, s1, s2, s3, s4, s5, s6⟩
    go_simp
    with_reducible rfl
  rotate_left
  · simp only [Act.put, List.setIfInBounds_toArray, List.set_cons_zero, List.set_cons_succ, i64_w, i32_w]
    rfl
  refine take_ (i := 8) (N := some 45) (v := ?_) (a' := ?_) #[true, true, true, true, true, true, true, true, true, false, false, false, false, false, false, false] rfl rfl (by kernel_rfl) (fun _ _ _ h => h) (Or.inl ⟨by rfl, ?_⟩) hHeld ?_ ?_
  rotate_left
  · rintro w' ⟨s0, s1, s2, s3, s4, s5, s6⟩
    go_simp
    with_reducible rfl
  rotate_left
  · simp only [Act.put, List.setIfInBounds_toArray, List.set_cons_zero, List.set_cons_succ, i64_w, i32_w]
    rfl
  refine join_ (σ := Nat) 2 #[true, true, true, true, true, true, true, true, true, true, true, true, true, true, false, false] (fun s => [(46, (.tuple #[S1.sval a' b' c' d', .bool true])), (8, .pointer (some ⟨s, 0, none⟩)), (36, (.tuple #[S1.sval a' b' c' d', .bool true])), (47, S1.sval a' b' c' d'), (48, .bool true)]) (fun s w' => (w'.cell? ⟨w.heap.size + 1, 2, none⟩ = some (.int .i64 m2) ∧ w'.cell? ⟨w.heap.size + 1, 3, none⟩ = some (.int .i64 m3) ∧ w'.cell? ⟨w.heap.size + 1, 4, none⟩ = some (.int .i64 m4) ∧ w'.cell? ⟨w.heap.size, 3 + m3.toNat * 4, none⟩ = some (.int .i64 a) ∧ w'.cell? ⟨w.heap.size, 3 + m3.toNat * 4 + 1, none⟩ = some (.int .i64 b) ∧ w'.cell? ⟨w.heap.size, 3 + m3.toNat * 4 + 2, none⟩ = some (.int .i64 c) ∧ w'.cell? ⟨w.heap.size, 3 + m3.toNat * 4 + 3, none⟩ = some (.int .i64 d)) ∧ IsBlk w' s #[.int .i64 0, .int .i64 0, .int .i64 0, .int .i64 0] 44 ∧ w.heap.size + 2 < s ∧ IsBlk w' w.heap.size (rv n m m1 h) 47 ∧ IsBlk w' (w.heap.size + 1) #[.int .i64 m0, .int .i64 m1, .int .i64 m2, .int .i64 m3, .int .i64 m4, .int .i64 m5] 26 ∧ IsBlk w' (w.heap.size + 2) Try.zeroCells47 47 ∧ Below w.heap.size w w') ?_ ?_
  rotate_left
  · intro hCont
    refine two_ (i := 9) (j := 13) (Ni := some 46) (Nj := some 8) #[true, true, true, true, true, true, true, true, true, true, false, false, false, false, false, false] #[true, true, true, true, true, true, true, true, true, false, false, false, false, true, false, false] rfl rfl rfl rfl (by kernel_rfl) (by simp) (by simp) (fun K hK => ?_) (fun K hK => ?_)
    · skip
      refine goes_ Try.func49 (by kernel_rfl) rfl #[S1.sval a b c d, .int .i64 m4, .int .i64 m2] (by rfl) rfl rfl (by simp only [List.map_toArray, List.map_cons, List.map_nil]; rfl) ?_
      with_reducible refine (hc _).mono ?_
      rintro e y9 ⟨rfl, hb1⟩
      have HRn : Aside0 (IsBlk y9 w.heap.size (rv n m m1 h) 47) := ⟨IsBlk.below (by repeat (with_reducible first | exact HR.out | apply IsBlk.alloc | apply IsBlk.drew)) hb1⟩
      have HMn : Aside0 (IsBlk y9 (w.heap.size + 1) #[.int .i64 m0, .int .i64 m1, .int .i64 m2, .int .i64 m3, .int .i64 m4, .int .i64 m5] 26) := ⟨IsBlk.below (by repeat (with_reducible first | exact HM.out | apply IsBlk.alloc | apply IsBlk.drew)) hb1⟩
      have HZn : Aside0 (IsBlk y9 (w.heap.size + 2) Try.zeroCells47 47) := ⟨IsBlk.below (by repeat (with_reducible first | exact HZ.out | apply IsBlk.alloc | apply IsBlk.drew)) hb1⟩
      have HBn : Aside0 (Below w.heap.size w y9) := ⟨below_step (by repeat (with_reducible first | exact HB.out | apply But2.alloc | apply But2.drew | apply below_alloc | apply below_drew1)) hb1⟩
      clear HR
      have HR := HRn
      clear HRn
      clear HM
      have HM := HMn
      clear HMn
      clear HZ
      have HZ := HZn
      clear HZn
      clear HB
      have HB := HBn
      clear HBn
      refine ⟨_, rfl, ?_⟩
      refine hK.out _ _ ⟨cell_keep hb1 hHeld.1, cell_keep hb1 hHeld.2.1, cell_keep hb1 hHeld.2.2.1, cell_keep hb1 hHeld.2.2.2.1, cell_keep hb1 hHeld.2.2.2.2.1, cell_keep hb1 hHeld.2.2.2.2.2.1, cell_keep hb1 hHeld.2.2.2.2.2.2⟩ (fun hHeld => ?_)
      clear hK K
      refine norm_ (a' := ?_) ?_ ?_
      rotate_left
      · show Act.put _ (some 46) _ = _
        simp only [Act.put, List.setIfInBounds_toArray, List.set_cons_zero, List.set_cons_succ, i64_w, i32_w]
        rfl
      refine pure_ (i := 10) (N := some 36) (v := ?_) (a' := ?_) #[true, true, true, true, true, true, true, true, true, true, true, false, false, false, false, false] rfl rfl (by kernel_rfl) (fun _ _ _ h => h) (Or.inl ⟨by rfl, ?_⟩) ?_ ?_
      rotate_left
      · intro w'
        go_simp
        with_reducible rfl
      rotate_left
      · simp only [Act.put, List.setIfInBounds_toArray, List.set_cons_zero, List.set_cons_succ, i64_w, i32_w]
        rfl
      refine pure_ (i := 11) (N := some 47) (v := ?_) (a' := ?_) #[true, true, true, true, true, true, true, true, true, true, true, true, false, false, false, false] rfl rfl (by kernel_rfl) (fun _ _ _ h => h) (Or.inl ⟨by rfl, ?_⟩) ?_ ?_
      rotate_left
      · intro w'
        go_simp
        with_reducible rfl
      rotate_left
      · simp only [Act.put, List.setIfInBounds_toArray, List.set_cons_zero, List.set_cons_succ, i64_w, i32_w]
        rfl
      refine pure_ (i := 12) (N := some 48) (v := ?_) (a' := ?_) #[true, true, true, true, true, true, true, true, true, true, true, true, true, false, false, false] rfl rfl (by kernel_rfl) (fun _ _ _ h => h) (Or.inl ⟨by rfl, ?_⟩) ?_ ?_
      rotate_left
      · intro w'
        go_simp
        with_reducible rfl
      rotate_left
      · simp only [Act.put, List.setIfInBounds_toArray, List.set_cons_zero, List.set_cons_succ, i64_w, i32_w]
        rfl
      refine one_ (i := 13) (N := some 8) #[true, true, true, true, true, true, true, true, true, true, true, true, true, true, false, false] rfl rfl (by kernel_rfl) (by simp) (fun K hK => ?_)
      refine value_ (w1 := ?_) (v := ?_) (by rfl) rfl ?_ ?_
      rotate_left 2
      · go_simp
        constructor
        · rfl
        · rfl
      have HN := Aside0.mk (show IsBlk (y9.alloc (.cells #[.int .i64 0, .int .i64 0, .int .i64 0, .int .i64 0] 44)) y9.heap.size #[.int .i64 0, .int .i64 0, .int .i64 0, .int .i64 0] 44 from IsBlk.new _ _ rfl)
      have HLN := Aside0.mk (show w.heap.size + 2 < y9.heap.size from blk_lt (show IsBlk y9 (w.heap.size + 2) Try.zeroCells47 47 from by repeat (with_reducible first | exact HZ.out | apply IsBlk.alloc | apply IsBlk.drew)))
      refine hK.out _ _ ⟨cell_keep (below_alloc (Below.refl _ _) _) hHeld.1, cell_keep (below_alloc (Below.refl _ _) _) hHeld.2.1, cell_keep (below_alloc (Below.refl _ _) _) hHeld.2.2.1, cell_keep (below_alloc (Below.refl _ _) _) hHeld.2.2.2.1, cell_keep (below_alloc (Below.refl _ _) _) hHeld.2.2.2.2.1, cell_keep (below_alloc (Below.refl _ _) _) hHeld.2.2.2.2.2.1, cell_keep (below_alloc (Below.refl _ _) _) hHeld.2.2.2.2.2.2⟩ (fun hHeld => ?_)
      clear hK K
      refine norm_ (a' := ?_) ?_ ?_
      rotate_left
      · show Act.put _ (some 8) _ = _
        simp only [Act.put, List.setIfInBounds_toArray, List.set_cons_zero, List.set_cons_succ, i64_w, i32_w]
        rfl
      exact norm_ (by first | (simp only [putAll, Act.put, List.setIfInBounds_toArray, List.set_cons_zero, List.set_cons_succ]; done) | (simp only [putAll, Act.put, List.setIfInBounds_toArray, List.set_cons_zero, List.set_cons_succ]; rfl)) (hCont _ _ ⟨hHeld, by repeat (with_reducible first | exact HN.out | apply IsBlk.alloc | apply IsBlk.drew), HLN.out, by repeat (with_reducible first | exact HR.out | apply IsBlk.alloc | apply IsBlk.drew), by repeat (with_reducible first | exact HM.out | apply IsBlk.alloc | apply IsBlk.drew), by repeat (with_reducible first | exact HZ.out | apply IsBlk.alloc | apply IsBlk.drew), by repeat (with_reducible first | exact HB.out | apply But2.alloc | apply But2.drew | apply below_alloc | apply below_drew1)⟩)
    · skip
      refine value_ (w1 := ?_) (v := ?_) (by rfl) rfl ?_ ?_
      rotate_left 2
      · go_simp
        constructor
        · rfl
        · rfl
      have HN := Aside0.mk (show IsBlk (w3.alloc (.cells #[.int .i64 0, .int .i64 0, .int .i64 0, .int .i64 0] 44)) w3.heap.size #[.int .i64 0, .int .i64 0, .int .i64 0, .int .i64 0] 44 from IsBlk.new _ _ rfl)
      have HLN := Aside0.mk (show w.heap.size + 2 < w3.heap.size from blk_lt (show IsBlk w3 (w.heap.size + 2) Try.zeroCells47 47 from by repeat (with_reducible first | exact HZ.out | apply IsBlk.alloc | apply IsBlk.drew)))
      refine hK.out _ _ ⟨cell_keep (below_alloc (Below.refl _ _) _) hHeld.1, cell_keep (below_alloc (Below.refl _ _) _) hHeld.2.1, cell_keep (below_alloc (Below.refl _ _) _) hHeld.2.2.1, cell_keep (below_alloc (Below.refl _ _) _) hHeld.2.2.2.1, cell_keep (below_alloc (Below.refl _ _) _) hHeld.2.2.2.2.1, cell_keep (below_alloc (Below.refl _ _) _) hHeld.2.2.2.2.2.1, cell_keep (below_alloc (Below.refl _ _) _) hHeld.2.2.2.2.2.2⟩ (fun hHeld => ?_)
      clear hK K
      refine norm_ (a' := ?_) ?_ ?_
      rotate_left
      · show Act.put _ (some 8) _ = _
        simp only [Act.put, List.setIfInBounds_toArray, List.set_cons_zero, List.set_cons_succ, i64_w, i32_w]
        rfl
      refine one_ (i := 9) (N := some 46) #[true, true, true, true, true, true, true, true, true, true, false, false, false, true, false, false] rfl rfl (by kernel_rfl) (by simp) (fun K hK => ?_)
      refine goes_ Try.func49 (by kernel_rfl) rfl #[S1.sval a b c d, .int .i64 m4, .int .i64 m2] (by rfl) rfl rfl (by simp only [List.map_toArray, List.map_cons, List.map_nil]; rfl) ?_
      with_reducible refine (hc _).mono ?_
      rintro e y9 ⟨rfl, hb1⟩
      have HRn : Aside0 (IsBlk y9 w.heap.size (rv n m m1 h) 47) := ⟨IsBlk.below (by repeat (with_reducible first | exact HR.out | apply IsBlk.alloc | apply IsBlk.drew)) hb1⟩
      have HMn : Aside0 (IsBlk y9 (w.heap.size + 1) #[.int .i64 m0, .int .i64 m1, .int .i64 m2, .int .i64 m3, .int .i64 m4, .int .i64 m5] 26) := ⟨IsBlk.below (by repeat (with_reducible first | exact HM.out | apply IsBlk.alloc | apply IsBlk.drew)) hb1⟩
      have HZn : Aside0 (IsBlk y9 (w.heap.size + 2) Try.zeroCells47 47) := ⟨IsBlk.below (by repeat (with_reducible first | exact HZ.out | apply IsBlk.alloc | apply IsBlk.drew)) hb1⟩
      have HBn : Aside0 (Below w.heap.size w y9) := ⟨below_step (by repeat (with_reducible first | exact HB.out | apply But2.alloc | apply But2.drew | apply below_alloc | apply below_drew1)) hb1⟩
      have HNn : Aside0 (IsBlk y9 w3.heap.size #[.int .i64 0, .int .i64 0, .int .i64 0, .int .i64 0] 44) := ⟨IsBlk.below (by repeat (with_reducible first | exact HN.out | apply IsBlk.alloc | apply IsBlk.drew)) hb1⟩
      clear HR
      have HR := HRn
      clear HRn
      clear HM
      have HM := HMn
      clear HMn
      clear HZ
      have HZ := HZn
      clear HZn
      clear HB
      have HB := HBn
      clear HBn
      clear HN
      have HN := HNn
      clear HNn
      refine ⟨_, rfl, ?_⟩
      refine hK.out _ _ ⟨cell_keep hb1 hHeld.1, cell_keep hb1 hHeld.2.1, cell_keep hb1 hHeld.2.2.1, cell_keep hb1 hHeld.2.2.2.1, cell_keep hb1 hHeld.2.2.2.2.1, cell_keep hb1 hHeld.2.2.2.2.2.1, cell_keep hb1 hHeld.2.2.2.2.2.2⟩ (fun hHeld => ?_)
      clear hK K
      refine norm_ (a' := ?_) ?_ ?_
      rotate_left
      · show Act.put _ (some 46) _ = _
        simp only [Act.put, List.setIfInBounds_toArray, List.set_cons_zero, List.set_cons_succ, i64_w, i32_w]
        rfl
      refine pure_ (i := 10) (N := some 36) (v := ?_) (a' := ?_) #[true, true, true, true, true, true, true, true, true, true, true, false, false, true, false, false] rfl rfl (by kernel_rfl) (fun _ _ _ h => h) (Or.inl ⟨by rfl, ?_⟩) ?_ ?_
      rotate_left
      · intro w'
        go_simp
        with_reducible rfl
      rotate_left
      · simp only [Act.put, List.setIfInBounds_toArray, List.set_cons_zero, List.set_cons_succ, i64_w, i32_w]
        rfl
      refine pure_ (i := 11) (N := some 47) (v := ?_) (a' := ?_) #[true, true, true, true, true, true, true, true, true, true, true, true, false, true, false, false] rfl rfl (by kernel_rfl) (fun _ _ _ h => h) (Or.inl ⟨by rfl, ?_⟩) ?_ ?_
      rotate_left
      · intro w'
        go_simp
        with_reducible rfl
      rotate_left
      · simp only [Act.put, List.setIfInBounds_toArray, List.set_cons_zero, List.set_cons_succ, i64_w, i32_w]
        rfl
      refine pure_ (i := 12) (N := some 48) (v := ?_) (a' := ?_) #[true, true, true, true, true, true, true, true, true, true, true, true, true, true, false, false] rfl rfl (by kernel_rfl) (fun _ _ _ h => h) (Or.inl ⟨by rfl, ?_⟩) ?_ ?_
      rotate_left
      · intro w'
        go_simp
        with_reducible rfl
      rotate_left
      · simp only [Act.put, List.setIfInBounds_toArray, List.set_cons_zero, List.set_cons_succ, i64_w, i32_w]
        rfl
      exact norm_ (by first | (simp only [putAll, Act.put, List.setIfInBounds_toArray, List.set_cons_zero, List.set_cons_succ]; done) | (simp only [putAll, Act.put, List.setIfInBounds_toArray, List.set_cons_zero, List.set_cons_succ]; rfl)) (hCont _ _ ⟨hHeld, by repeat (with_reducible first | exact HN.out | apply IsBlk.alloc | apply IsBlk.drew), HLN.out, by repeat (with_reducible first | exact HR.out | apply IsBlk.alloc | apply IsBlk.drew), by repeat (with_reducible first | exact HM.out | apply IsBlk.alloc | apply IsBlk.drew), by repeat (with_reducible first | exact HZ.out | apply IsBlk.alloc | apply IsBlk.drew), by repeat (with_reducible first | exact HB.out | apply But2.alloc | apply But2.drew | apply below_alloc | apply below_drew1)⟩)
  rintro s y ⟨hHeld, hN, hLN, hHR, hHM, hHZ, hHB⟩
  clear HR
  clear HM
  clear HZ
  clear HB
  have HR := Aside0.mk hHR
  have HM := Aside0.mk hHM
  have HZ := Aside0.mk hHZ
  have HB := Aside0.mk hHB
  have HN := Aside0.mk hN
  have HLN := Aside0.mk hLN
  clear hN hLN hHR hHM hHZ hHB
  have N_0 : y.cell? ⟨s, 0, none⟩ = some (.int .i64 0) := blk_cell HN.out 0
  have N_z0 : y.frozen? ⟨s, 0, none⟩ = false := blk_frozen HN.out 0
  have N_1 : y.cell? ⟨s, 1, none⟩ = some (.int .i64 0) := blk_cell HN.out 1
  have N_z1 : y.frozen? ⟨s, 1, none⟩ = false := blk_frozen HN.out 1
  have N_2 : y.cell? ⟨s, 2, none⟩ = some (.int .i64 0) := blk_cell HN.out 2
  have N_z2 : y.frozen? ⟨s, 2, none⟩ = false := blk_frozen HN.out 2
  have N_3 : y.cell? ⟨s, 3, none⟩ = some (.int .i64 0) := blk_cell HN.out 3
  have N_z3 : y.frozen? ⟨s, 3, none⟩ = false := blk_frozen HN.out 3
  refine norm_ (a' := ?_) ?_ ?_
  rotate_left
  · simp only [putAll, Act.put, List.setIfInBounds_toArray, List.set_cons_zero, List.set_cons_succ]
    rfl
  refine last_ (i := 14) (N := none) #[true, true, true, true, true, true, true, true, true, true, true, true, true, true, true, false] rfl rfl (by kernel_rfl) (by simp) (fun K hK => ?_)
  refine skip_ (w1 := ?_) (by rfl) rfl ?_ ?_
  rotate_left
  · go_simp
    rfl
  refine hK.out _ _ ?_
  clear hK K
  refine pure_ (i := 15) (N := some 9) (v := ?_) (a' := ?_) #[true, true, true, true, true, true, true, true, true, true, true, true, true, true, true, true] rfl rfl (by kernel_rfl) (fun _ _ _ h => h) (Or.inl ⟨by rfl, ?_⟩) ?_ ?_
  rotate_left
  · intro w'
    go_simp
    with_reducible rfl
  rotate_left
  · simp only [Act.put, List.setIfInBounds_toArray, List.set_cons_zero, List.set_cons_succ, i64_w, i32_w]
    rfl
  refine done_ (by kernel_rfl) ?_

  have HR4 : Aside0 (IsBlk ((((y.setCell ⟨s, 0, none⟩ (.int .i64 a')).setCell ⟨s, 1, none⟩ (.int .i64 b')).setCell ⟨s, 2, none⟩ (.int .i64 c')).setCell ⟨s, 3, none⟩ (.int .i64 d')) w.heap.size (rv n m m1 h) 47) := ⟨far4 HR.out (by have := HLN.out; omega) _ _ _ _⟩
  have HM4 : Aside0 (IsBlk ((((y.setCell ⟨s, 0, none⟩ (.int .i64 a')).setCell ⟨s, 1, none⟩ (.int .i64 b')).setCell ⟨s, 2, none⟩ (.int .i64 c')).setCell ⟨s, 3, none⟩ (.int .i64 d')) (w.heap.size + 1) #[.int .i64 m0, .int .i64 m1, .int .i64 m2, .int .i64 m3, .int .i64 m4, .int .i64 m5] 26) := ⟨far4 HM.out (by have := HLN.out; omega) _ _ _ _⟩
  have HZ4 : Aside0 (IsBlk ((((y.setCell ⟨s, 0, none⟩ (.int .i64 a')).setCell ⟨s, 1, none⟩ (.int .i64 b')).setCell ⟨s, 2, none⟩ (.int .i64 c')).setCell ⟨s, 3, none⟩ (.int .i64 d')) (w.heap.size + 2) Try.zeroCells47 47) := ⟨far4 HZ.out (by have := HLN.out; omega) _ _ _ _⟩
  have HB4 : Aside0 (Below w.heap.size w ((((y.setCell ⟨s, 0, none⟩ (.int .i64 a')).setCell ⟨s, 1, none⟩ (.int .i64 b')).setCell ⟨s, 2, none⟩ (.int .i64 c')).setCell ⟨s, 3, none⟩ (.int .i64 d'))) := ⟨below4 HB.out (by have := HLN.out; omega) _ _ _ _⟩
  have N : IsBlk ((((y.setCell ⟨s, 0, none⟩ (.int .i64 a')).setCell ⟨s, 1, none⟩ (.int .i64 b')).setCell ⟨s, 2, none⟩ (.int .i64 c')).setCell ⟨s, 3, none⟩ (.int .i64 d')) s #[.int .i64 a', .int .i64 b', .int .i64 c', .int .i64 d'] 44 := blk_set (blk_set (blk_set (blk_set HN.out 0 _) 1 _) 2 _) 3 _
  clear HR HM HZ HB HN N_0 N_1 N_2 N_3 N_z0 N_z1 N_z2 N_z3
  clear M_0 M_1 M_2 M_3 M_4 M_5 M_z0 M_z1 M_z2 M_z3 M_z4 M_z5 M_l R_a R_b R_c R_d
  generalize ((((y.setCell ⟨s, 0, none⟩ (.int .i64 a')).setCell ⟨s, 1, none⟩ (.int .i64 b')).setCell ⟨s, 2, none⟩ (.int .i64 c')).setCell ⟨s, 3, none⟩ (.int .i64 d')) = w5 at *
  have HR := HR4
  have HZ := HZ4
  have HB := HB4
  have M := HM4.out
  clear HR4 HM4 HZ4 HB4
  have M_0 := blk_cell M 0
  have M_1 := blk_cell M 1
  have M_2 := blk_cell M 2
  have M_3 := blk_cell M 3
  have M_4 := blk_cell M 4
  have M_5 := blk_cell M 5
  simp only [List.getElem?_toArray, List.getElem?_cons_zero, List.getElem?_cons_succ] at M_0 M_1 M_2 M_3 M_4 M_5
  have M_z0 := blk_frozen M 0
  have M_z1 := blk_frozen M 1
  have M_z2 := blk_frozen M 2
  have M_z3 := blk_frozen M 3
  have M_z4 := blk_frozen M 4
  have M_z5 := blk_frozen M 5
  have M_l := blk_lt M
  have HM := Aside0.mk M
  clear M
  have N_0 := blk_cell N 0
  have N_1 := blk_cell N 1
  have N_2 := blk_cell N 2
  have N_3 := blk_cell N 3
  simp only [List.getElem?_toArray, List.getElem?_cons_zero, List.getElem?_cons_succ] at N_0 N_1 N_2 N_3
  have N_z0 := blk_frozen N 0
  have N_z1 := blk_frozen N 1
  have N_z2 := blk_frozen N 2
  have N_z3 := blk_frozen N 3
  have N_l := blk_lt N
  have HN := Aside0.mk N
  clear N
  have R_a : w5.cell? ⟨w.heap.size, 3 + m3.toNat * 4, none⟩ = some (.int .i64 a) := by have := (blk_cell HR.out (3 + m3.toNat * 4 + 0)).trans (rv_u n m m1 h m3.toNat 0 HU.out (by decide)); rw [HS.out, Nat.add_zero] at this; exact this
  have R_b : w5.cell? ⟨w.heap.size, 3 + m3.toNat * 4 + 1, none⟩ = some (.int .i64 b) := by have := (blk_cell HR.out (3 + m3.toNat * 4 + 1)).trans (rv_u n m m1 h m3.toNat 1 HU.out (by decide)); rw [HS.out] at this; exact this
  have R_c : w5.cell? ⟨w.heap.size, 3 + m3.toNat * 4 + 2, none⟩ = some (.int .i64 c) := by have := (blk_cell HR.out (3 + m3.toNat * 4 + 2)).trans (rv_u n m m1 h m3.toNat 2 HU.out (by decide)); rw [HS.out] at this; exact this
  have R_d : w5.cell? ⟨w.heap.size, 3 + m3.toNat * 4 + 3, none⟩ = some (.int .i64 d) := by have := (blk_cell HR.out (3 + m3.toNat * 4 + 3)).trans (rv_u n m m1 h m3.toNat 3 HU.out (by decide)); rw [HS.out] at this; exact this
  have R_z := fun j => blk_frozen HR.out j
  go_upto_region 14 with fail
  have HR5 : Aside0 (IsBlk ((((w5.setCell ⟨w.heap.size, 3 + m3.toNat * 4, none⟩ (.int .i64 a')).setCell ⟨w.heap.size, 3 + m3.toNat * 4 + 1, none⟩ (.int .i64 b')).setCell ⟨w.heap.size, 3 + m3.toNat * 4 + 2, none⟩ (.int .i64 c')).setCell ⟨w.heap.size, 3 + m3.toNat * 4 + 3, none⟩ (.int .i64 d')) w.heap.size (rv n m m1 (hupd h m3.toNat ⟨a', b', c', d'⟩)) 47) := ⟨put4 HR.out m3.toNat HU.out a' b' c' d'⟩
  have HZ5 : Aside0 (IsBlk ((((w5.setCell ⟨w.heap.size, 3 + m3.toNat * 4, none⟩ (.int .i64 a')).setCell ⟨w.heap.size, 3 + m3.toNat * 4 + 1, none⟩ (.int .i64 b')).setCell ⟨w.heap.size, 3 + m3.toNat * 4 + 2, none⟩ (.int .i64 c')).setCell ⟨w.heap.size, 3 + m3.toNat * 4 + 3, none⟩ (.int .i64 d')) (w.heap.size + 2) Try.zeroCells47 47) := ⟨far4' HZ.out (by omega) _ _ _ _⟩
  have HB5 : Aside0 (Below w.heap.size w ((((w5.setCell ⟨w.heap.size, 3 + m3.toNat * 4, none⟩ (.int .i64 a')).setCell ⟨w.heap.size, 3 + m3.toNat * 4 + 1, none⟩ (.int .i64 b')).setCell ⟨w.heap.size, 3 + m3.toNat * 4 + 2, none⟩ (.int .i64 c')).setCell ⟨w.heap.size, 3 + m3.toNat * 4 + 3, none⟩ (.int .i64 d'))) := ⟨below4' HB.out (Nat.le_refl _) _ _ _ _⟩
  clear M_0 M_1 M_2 M_3 M_4 M_5 M_z0 M_z1 M_z2 M_z3 M_z4 M_z5 M_l HM
  clear N_0 N_1 N_2 N_3 N_z0 N_z1 N_z2 N_z3 N_l HN
  clear HR HZ HB R_a R_b R_c R_d R_z
  generalize ((((w5.setCell ⟨w.heap.size, 3 + m3.toNat * 4, none⟩ (.int .i64 a')).setCell ⟨w.heap.size, 3 + m3.toNat * 4 + 1, none⟩ (.int .i64 b')).setCell ⟨w.heap.size, 3 + m3.toNat * 4 + 2, none⟩ (.int .i64 c')).setCell ⟨w.heap.size, 3 + m3.toNat * 4 + 3, none⟩ (.int .i64 d')) = w6 at *
  have HR := HR5
  have HZ := HZ5
  have HB := HB5
  clear HR5 HZ5 HB5
  go_wp2_with (first | ((with_reducible refine wpList_loadW w.heap.size (rv n m m1 (hupd h m3.toNat ⟨a', b', c', d'⟩)) ?_ ?_ (rv_size _ _ _ _) ?_); rfl; (first | exact HR.out | exact HR.out.alloc _)) | ((with_reducible refine wpList_storeW (w.heap.size + 2) Try.zeroCells47 (rv n m m1 (hupd h m3.toNat ⟨a', b', c', d'⟩)) ?_ ?_ ?_ z67_size (rv_size _ _ _ _) (rv_one _ _ _ _) ?_); rfl; rfl; exact HZ.out; intro w9 hb9 hg9))
  refine retW Try.results30 (w.heap.size + 2) (rv n m m1 (hupd h m3.toNat ⟨a', b', c', d'⟩)) _ rfl rfl hb9 (rv_size _ _ _ _) rfl ⟨rfl, ?_⟩
  exact below_of_new HB.out hg9 (by omega) HB.out.size
end Go.Proofs.Ytkjaeodnpgpfeaa.V2
