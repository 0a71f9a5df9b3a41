/-
  Proved here: what the reference's On, Back, Share answer. No condition.
-/
import Derived.Test.YtfnpepfabbgpfaaR3
import Derived.Test.YtfnpepfabbgpfaaB6
import Derived.Test.YtfnpepfabbgpfaaB7
namespace Go.Proofs.Ytfnpepfabbgpfaa.R4
open Go.RowKit Go.Sort Go.Proofs.Ytfnpepfabbgpfaa.B0 Go.Proofs.Ytfnpepfabbgpfaa.B1 Go.Proofs.Ytfnpepfabbgpfaa.B1z Go.Proofs.Ytfnpepfabbgpfaa.B2 Go.Proofs.Ytfnpepfabbgpfaa.B4 Go.Proofs.Ytfnpepfabbgpfaa.B6 Go.Proofs.Ytfnpepfabbgpfaa.B7 Go.Proofs.Ytfnpepfabbgpfaa.R1 Go.Proofs.Ytfnpepfabbgpfaa.R2 Go.Proofs.Ytfnpepfabbgpfaa.R3 Go.Proofs.YtfnpepfabbgpfaaW.PrintWords Go.Proofs.YtfnpepfabbgpfaaW.PrintLast Go.Proofs.YtfnpepfabbgpfaaW.PrintMore
set_option linter.unusedVariables false
set_option linter.unusedSimpArgs false
attribute [local go_sem] max2_int min2_int max_two min_two

set_option maxRecDepth 100000 in
set_option maxHeartbeats 4000000 in
theorem on_r (v d s u st s0 s1 s2 s3 p q r i : Int) (w : World) : Calls Try.prog 19 #[.agg #[.int .i64 v, .int .i64 d, .int .i64 s, .int .i64 u, .int .i64 st, .int .i64 s0, .int .i64 s1, .int .i64 s2, .int .i64 s3, .int .i64 p, .int .i64 q, .int .i64 r], .int .i64 i] w fun e w' =>
    e = .returned (.agg (if (targetV v d s u st s0 s1 s2 s3 p q r i == 0) = true then #[.int .i64 0, .int .i64 0, .int .i64 0, .int .i64 0, .int .i64 0, .bool false] else #[.int .i64 v, .int .i64 (targetV v d s u st s0 s1 s2 s3 p q r i), .int .i64 d, .int .i64 (lowV d u), .int .i64 (highV d s), .bool (st == 2)])) ∧ Below w.heap.size w w' := by
  have HB := Aside0.mk (Below.refl w.heap.size w)
  obtain ⟨n, hn⟩ : ∃ n, targetV v d s u st s0 s1 s2 s3 p q r i = n := ⟨_, rfl⟩
  obtain ⟨lo, hlo⟩ : ∃ n, lowV d u = n := ⟨_, rfl⟩
  obtain ⟨hi, hhi⟩ : ∃ n, highV d s = n := ⟨_, rfl⟩
  have H2 := Aside0.mk hlo
  have H3 := Aside0.mk hhi
  rw [hn, hlo, hhi]
  have H1 := Aside0.mk hn
  clear hn hlo hhi
  cases hz : (n == 0) with
  | true =>
    rw [if_pos rfl]
    go_enter Try.func19, Try.ntmps19
    go_wp2_with fail
    refine (target_r v d s u st s0 s1 s2 s3 p q r i _).mono ?_
    rw [H1.out]
    rintro e w1 ⟨rfl, hb1⟩
    have R : IsBlk w1 (w.heap.size + 1) #[.int .i64 0, .int .i64 0, .int .i64 0, .int .i64 0, .int .i64 0, .bool false] 40 := IsBlk.below (by repeat (first | ((refine IsBlk.new _ _ ?_); (simp; done)) | apply IsBlk.alloc | apply IsBlk.drewN)) hb1
    have R_0 := blk_cell R 0
    have R_1 := blk_cell R 1
    have R_2 := blk_cell R 2
    have R_3 := blk_cell R 3
    have R_4 := blk_cell R 4
    have R_5 := blk_cell R 5
    simp only [List.getElem?_toArray, List.getElem?_cons_zero, List.getElem?_cons_succ] at R_0 R_1 R_2 R_3 R_4 R_5
    have R_z0 := blk_frozen R 0
    have R_z1 := blk_frozen R 1
    have R_z2 := blk_frozen R 2
    have R_z3 := blk_frozen R 3
    have R_z4 := blk_frozen R 4
    have R_z5 := blk_frozen R 5
    have R_l := blk_lt R
    have HR := Aside0.mk R
    clear R
    have n0 := Aside0.mk (below_step (by repeat (first | (with_reducible first | exact HB.out | apply below_alloc | apply pw_below_drewN | apply below_drew1) | refine below_set ?_ (by omega))) hb1)
    clear HB hb1
    have HB := n0
    clear n0
    go_wp2
    exact bodyPost_ret (v := .agg #[.int .i64 0, .int .i64 0, .int .i64 0, .int .i64 0, .int .i64 0, .bool false]) (by simp [results, Try.results19, go_sem, *]) rfl ⟨rfl, by repeat (first | (with_reducible first | exact HB.out | apply below_alloc | apply pw_below_drewN | apply below_drew1) | refine below_set ?_ (by omega))⟩
  | false =>
    rw [if_neg (by decide)]
    go_enter Try.func19, Try.ntmps19
    go_wp2_with fail
    refine (target_r v d s u st s0 s1 s2 s3 p q r i _).mono ?_
    rw [H1.out]
    rintro e w1 ⟨rfl, hb1⟩
    have D : IsBlk w1 (w.heap.size) #[.int .i64 v, .int .i64 d, .int .i64 s, .int .i64 u, .int .i64 st, .int .i64 s0, .int .i64 s1, .int .i64 s2, .int .i64 s3, .int .i64 p, .int .i64 q, .int .i64 r] 24 := IsBlk.below (by repeat (first | ((refine IsBlk.new _ _ ?_); (simp; done)) | apply IsBlk.alloc | apply IsBlk.drewN)) hb1
    have D_0 := blk_cell D 0
    have D_1 := blk_cell D 1
    have D_2 := blk_cell D 2
    have D_3 := blk_cell D 3
    have D_4 := blk_cell D 4
    have D_5 := blk_cell D 5
    have D_6 := blk_cell D 6
    have D_7 := blk_cell D 7
    have D_8 := blk_cell D 8
    have D_9 := blk_cell D 9
    have D_10 := blk_cell D 10
    have D_11 := blk_cell D 11
    simp only [List.getElem?_toArray, List.getElem?_cons_zero, List.getElem?_cons_succ] at D_0 D_1 D_2 D_3 D_4 D_5 D_6 D_7 D_8 D_9 D_10 D_11
    have D_z0 := blk_frozen D 0
    have D_z1 := blk_frozen D 1
    have D_z2 := blk_frozen D 2
    have D_z3 := blk_frozen D 3
    have D_z4 := blk_frozen D 4
    have D_z5 := blk_frozen D 5
    have D_z6 := blk_frozen D 6
    have D_z7 := blk_frozen D 7
    have D_z8 := blk_frozen D 8
    have D_z9 := blk_frozen D 9
    have D_z10 := blk_frozen D 10
    have D_z11 := blk_frozen D 11
    have D_l := blk_lt D
    have HD := Aside0.mk D
    clear D
    have R : IsBlk w1 (w.heap.size + 1) #[.int .i64 0, .int .i64 0, .int .i64 0, .int .i64 0, .int .i64 0, .bool false] 40 := IsBlk.below (by repeat (first | ((refine IsBlk.new _ _ ?_); (simp; done)) | apply IsBlk.alloc | apply IsBlk.drewN)) hb1
    have R_0 := blk_cell R 0
    have R_1 := blk_cell R 1
    have R_2 := blk_cell R 2
    have R_3 := blk_cell R 3
    have R_4 := blk_cell R 4
    have R_5 := blk_cell R 5
    simp only [List.getElem?_toArray, List.getElem?_cons_zero, List.getElem?_cons_succ] at R_0 R_1 R_2 R_3 R_4 R_5
    have R_z0 := blk_frozen R 0
    have R_z1 := blk_frozen R 1
    have R_z2 := blk_frozen R 2
    have R_z3 := blk_frozen R 3
    have R_z4 := blk_frozen R 4
    have R_z5 := blk_frozen R 5
    have R_l := blk_lt R
    have HR := Aside0.mk R
    clear R
    have n0 := Aside0.mk (below_step (by repeat (first | (with_reducible first | exact HB.out | apply below_alloc | apply pw_below_drewN | apply below_drew1) | refine below_set ?_ (by omega))) hb1)
    clear HB hb1
    have HB := n0
    clear n0
    go_wp2_with fail
    refine (budget_r v d s u st s0 s1 s2 s3 p q r _).mono ?_
    rw [H2.out, H3.out]
    rintro e w2 ⟨rfl, hb1⟩
    have D' := IsBlk.below (by repeat (with_reducible first | exact HD.out | apply IsBlk.alloc | apply IsBlk.drewN | apply IsBlk.drew)) hb1
    clear D_0 D_1 D_2 D_3 D_4 D_5 D_6 D_7 D_8 D_9 D_10 D_11 D_z0 D_z1 D_z2 D_z3 D_z4 D_z5 D_z6 D_z7 D_z8 D_z9 D_z10 D_z11 D_l HD
    have D := D'
    clear D'
    have D_0 := blk_cell D 0
    have D_1 := blk_cell D 1
    have D_2 := blk_cell D 2
    have D_3 := blk_cell D 3
    have D_4 := blk_cell D 4
    have D_5 := blk_cell D 5
    have D_6 := blk_cell D 6
    have D_7 := blk_cell D 7
    have D_8 := blk_cell D 8
    have D_9 := blk_cell D 9
    have D_10 := blk_cell D 10
    have D_11 := blk_cell D 11
    simp only [List.getElem?_toArray, List.getElem?_cons_zero, List.getElem?_cons_succ] at D_0 D_1 D_2 D_3 D_4 D_5 D_6 D_7 D_8 D_9 D_10 D_11
    have D_z0 := blk_frozen D 0
    have D_z1 := blk_frozen D 1
    have D_z2 := blk_frozen D 2
    have D_z3 := blk_frozen D 3
    have D_z4 := blk_frozen D 4
    have D_z5 := blk_frozen D 5
    have D_z6 := blk_frozen D 6
    have D_z7 := blk_frozen D 7
    have D_z8 := blk_frozen D 8
    have D_z9 := blk_frozen D 9
    have D_z10 := blk_frozen D 10
    have D_z11 := blk_frozen D 11
    have D_l := blk_lt D
    have HD := Aside0.mk D
    clear D
    have R' := IsBlk.below (by repeat (with_reducible first | exact HR.out | apply IsBlk.alloc | apply IsBlk.drewN | apply IsBlk.drew)) hb1
    clear R_0 R_1 R_2 R_3 R_4 R_5 R_z0 R_z1 R_z2 R_z3 R_z4 R_z5 R_l HR
    have R := R'
    clear R'
    have R_0 := blk_cell R 0
    have R_1 := blk_cell R 1
    have R_2 := blk_cell R 2
    have R_3 := blk_cell R 3
    have R_4 := blk_cell R 4
    have R_5 := blk_cell R 5
    simp only [List.getElem?_toArray, List.getElem?_cons_zero, List.getElem?_cons_succ] at R_0 R_1 R_2 R_3 R_4 R_5
    have R_z0 := blk_frozen R 0
    have R_z1 := blk_frozen R 1
    have R_z2 := blk_frozen R 2
    have R_z3 := blk_frozen R 3
    have R_z4 := blk_frozen R 4
    have R_z5 := blk_frozen R 5
    have R_l := blk_lt R
    have HR := Aside0.mk R
    clear R
    have n0 := Aside0.mk (below_step (by repeat (first | (with_reducible first | exact HB.out | apply below_alloc | apply pw_below_drewN | apply below_drew1) | refine below_set ?_ (by omega))) hb1)
    clear HB hb1
    have HB := n0
    clear n0
    go_wp2
    exact bodyPost_ret (v := .agg #[.int .i64 v, .int .i64 n, .int .i64 d, .int .i64 lo, .int .i64 hi, .bool (st == 2)]) (by simp [results, Try.results19, go_sem, *]) rfl ⟨rfl, by repeat (first | (with_reducible first | exact HB.out | apply below_alloc | apply pw_below_drewN | apply below_drew1) | refine below_set ?_ (by omega))⟩

set_option maxRecDepth 100000 in
set_option maxHeartbeats 4000000 in
theorem back_r_bad (v d s u st s0 s1 s2 s3 p q r i : Int) (w : World) (hok : okB v d s u st s0 s1 s2 s3 p q r = false) : Calls Try.prog 21 #[.agg #[.int .i64 v, .int .i64 d, .int .i64 s, .int .i64 u, .int .i64 st, .int .i64 s0, .int .i64 s1, .int .i64 s2, .int .i64 s3, .int .i64 p, .int .i64 q, .int .i64 r], .int .i64 i] w fun e w' => e = .returned (.agg #[.int .i64 0, .int .i64 0, .int .i64 0, .int .i64 0, .int .i64 0, .bool false]) ∧ Below w.heap.size w w' := by
  have HB := Aside0.mk (Below.refl w.heap.size w)
  obtain ⟨lo, hlo⟩ : ∃ n, lowV d u = n := ⟨_, rfl⟩
  obtain ⟨hi, hhi⟩ : ∃ n, highV d s = n := ⟨_, rfl⟩
  have H2 := Aside0.mk hlo
  have H3 := Aside0.mk hhi
  try rw [hlo]
  try rw [hhi]
  clear hlo hhi
  go_enter Try.func21, Try.ntmps21
  go_wp2_with fail
  refine (check_r v d s u st s0 s1 s2 s3 p q r _).mono ?_
  rw [hok]
  rintro e w1 ⟨n, x, rfl, hx, hb1⟩
  have D : IsBlk w1 (w.heap.size) #[.int .i64 v, .int .i64 d, .int .i64 s, .int .i64 u, .int .i64 st, .int .i64 s0, .int .i64 s1, .int .i64 s2, .int .i64 s3, .int .i64 p, .int .i64 q, .int .i64 r] 24 := IsBlk.below (by repeat (first | ((refine IsBlk.new _ _ ?_); (simp; done)) | apply IsBlk.alloc | apply IsBlk.drewN)) hb1
  have D_0 := blk_cell D 0
  have D_1 := blk_cell D 1
  have D_2 := blk_cell D 2
  have D_3 := blk_cell D 3
  have D_4 := blk_cell D 4
  have D_5 := blk_cell D 5
  have D_6 := blk_cell D 6
  have D_7 := blk_cell D 7
  have D_8 := blk_cell D 8
  have D_9 := blk_cell D 9
  have D_10 := blk_cell D 10
  have D_11 := blk_cell D 11
  simp only [List.getElem?_toArray, List.getElem?_cons_zero, List.getElem?_cons_succ] at D_0 D_1 D_2 D_3 D_4 D_5 D_6 D_7 D_8 D_9 D_10 D_11
  have D_z0 := blk_frozen D 0
  have D_z1 := blk_frozen D 1
  have D_z2 := blk_frozen D 2
  have D_z3 := blk_frozen D 3
  have D_z4 := blk_frozen D 4
  have D_z5 := blk_frozen D 5
  have D_z6 := blk_frozen D 6
  have D_z7 := blk_frozen D 7
  have D_z8 := blk_frozen D 8
  have D_z9 := blk_frozen D 9
  have D_z10 := blk_frozen D 10
  have D_z11 := blk_frozen D 11
  have D_l := blk_lt D
  have HD := Aside0.mk D
  clear D
  have R : IsBlk w1 (w.heap.size + 1) #[.int .i64 0, .int .i64 0, .int .i64 0, .int .i64 0, .int .i64 0, .bool false] 40 := IsBlk.below (by repeat (first | ((refine IsBlk.new _ _ ?_); (simp; done)) | apply IsBlk.alloc | apply IsBlk.drewN)) hb1
  have R_0 := blk_cell R 0
  have R_1 := blk_cell R 1
  have R_2 := blk_cell R 2
  have R_3 := blk_cell R 3
  have R_4 := blk_cell R 4
  have R_5 := blk_cell R 5
  simp only [List.getElem?_toArray, List.getElem?_cons_zero, List.getElem?_cons_succ] at R_0 R_1 R_2 R_3 R_4 R_5
  have R_z0 := blk_frozen R 0
  have R_z1 := blk_frozen R 1
  have R_z2 := blk_frozen R 2
  have R_z3 := blk_frozen R 3
  have R_z4 := blk_frozen R 4
  have R_z5 := blk_frozen R 5
  have R_l := blk_lt R
  have HR := Aside0.mk R
  clear R
  have n0 := Aside0.mk (below_step (by repeat (first | (with_reducible first | exact HB.out | apply below_alloc | apply pw_below_drewN | apply below_drew1) | refine below_set ?_ (by omega))) hb1)
  clear HB hb1
  have HB := n0
  clear n0
  have hx2 : (x != 0) = true := by simpa using hx
  have HX := Aside0.mk hx
  clear hx
  go_wp2
  exact bodyPost_ret (v := .agg #[.int .i64 0, .int .i64 0, .int .i64 0, .int .i64 0, .int .i64 0, .bool false]) (by simp [results, Try.results21, go_sem, *]) rfl ⟨rfl, by repeat (first | (with_reducible first | exact HB.out | apply below_alloc | apply pw_below_drewN | apply below_drew1) | refine below_set ?_ (by omega))⟩

set_option maxRecDepth 100000 in
set_option maxHeartbeats 4000000 in
theorem back_r_neg (v d s u st s0 s1 s2 s3 p q r i : Int) (w : World) (hok : okB v d s u st s0 s1 s2 s3 p q r = true) (hi : decide (i < 0) = true) : Calls Try.prog 21 #[.agg #[.int .i64 v, .int .i64 d, .int .i64 s, .int .i64 u, .int .i64 st, .int .i64 s0, .int .i64 s1, .int .i64 s2, .int .i64 s3, .int .i64 p, .int .i64 q, .int .i64 r], .int .i64 i] w fun e w' => e = .returned (.agg #[.int .i64 0, .int .i64 0, .int .i64 0, .int .i64 0, .int .i64 0, .bool false]) ∧ Below w.heap.size w w' := by
  have HB := Aside0.mk (Below.refl w.heap.size w)
  obtain ⟨lo, hlo⟩ : ∃ n, lowV d u = n := ⟨_, rfl⟩
  obtain ⟨hi, hhi⟩ : ∃ n, highV d s = n := ⟨_, rfl⟩
  have H2 := Aside0.mk hlo
  have H3 := Aside0.mk hhi
  try rw [hlo]
  try rw [hhi]
  clear hlo hhi
  go_enter Try.func21, Try.ntmps21
  go_wp2_with fail
  refine (check_r v d s u st s0 s1 s2 s3 p q r _).mono ?_
  rw [hok]
  rintro e w1 ⟨n, x, rfl, hx, hb1⟩
  have D : IsBlk w1 (w.heap.size) #[.int .i64 v, .int .i64 d, .int .i64 s, .int .i64 u, .int .i64 st, .int .i64 s0, .int .i64 s1, .int .i64 s2, .int .i64 s3, .int .i64 p, .int .i64 q, .int .i64 r] 24 := IsBlk.below (by repeat (first | ((refine IsBlk.new _ _ ?_); (simp; done)) | apply IsBlk.alloc | apply IsBlk.drewN)) hb1
  have D_0 := blk_cell D 0
  have D_1 := blk_cell D 1
  have D_2 := blk_cell D 2
  have D_3 := blk_cell D 3
  have D_4 := blk_cell D 4
  have D_5 := blk_cell D 5
  have D_6 := blk_cell D 6
  have D_7 := blk_cell D 7
  have D_8 := blk_cell D 8
  have D_9 := blk_cell D 9
  have D_10 := blk_cell D 10
  have D_11 := blk_cell D 11
  simp only [List.getElem?_toArray, List.getElem?_cons_zero, List.getElem?_cons_succ] at D_0 D_1 D_2 D_3 D_4 D_5 D_6 D_7 D_8 D_9 D_10 D_11
  have D_z0 := blk_frozen D 0
  have D_z1 := blk_frozen D 1
  have D_z2 := blk_frozen D 2
  have D_z3 := blk_frozen D 3
  have D_z4 := blk_frozen D 4
  have D_z5 := blk_frozen D 5
  have D_z6 := blk_frozen D 6
  have D_z7 := blk_frozen D 7
  have D_z8 := blk_frozen D 8
  have D_z9 := blk_frozen D 9
  have D_z10 := blk_frozen D 10
  have D_z11 := blk_frozen D 11
  have D_l := blk_lt D
  have HD := Aside0.mk D
  clear D
  have R : IsBlk w1 (w.heap.size + 1) #[.int .i64 0, .int .i64 0, .int .i64 0, .int .i64 0, .int .i64 0, .bool false] 40 := IsBlk.below (by repeat (first | ((refine IsBlk.new _ _ ?_); (simp; done)) | apply IsBlk.alloc | apply IsBlk.drewN)) hb1
  have R_0 := blk_cell R 0
  have R_1 := blk_cell R 1
  have R_2 := blk_cell R 2
  have R_3 := blk_cell R 3
  have R_4 := blk_cell R 4
  have R_5 := blk_cell R 5
  simp only [List.getElem?_toArray, List.getElem?_cons_zero, List.getElem?_cons_succ] at R_0 R_1 R_2 R_3 R_4 R_5
  have R_z0 := blk_frozen R 0
  have R_z1 := blk_frozen R 1
  have R_z2 := blk_frozen R 2
  have R_z3 := blk_frozen R 3
  have R_z4 := blk_frozen R 4
  have R_z5 := blk_frozen R 5
  have R_l := blk_lt R
  have HR := Aside0.mk R
  clear R
  have n0 := Aside0.mk (below_step (by repeat (first | (with_reducible first | exact HB.out | apply below_alloc | apply pw_below_drewN | apply below_drew1) | refine below_set ?_ (by omega))) hb1)
  clear HB hb1
  have HB := n0
  clear n0
  have hx2 : (x != 0) = false := by simpa using hx
  have HX := Aside0.mk hx
  clear hx
  go_wp2
  exact bodyPost_ret (v := .agg #[.int .i64 0, .int .i64 0, .int .i64 0, .int .i64 0, .int .i64 0, .bool false]) (by simp [results, Try.results21, go_sem, *]) rfl ⟨rfl, by repeat (first | (with_reducible first | exact HB.out | apply below_alloc | apply pw_below_drewN | apply below_drew1) | refine below_set ?_ (by omega))⟩

set_option maxRecDepth 100000 in
set_option maxHeartbeats 4000000 in
theorem back_r_0 (v d s u st s0 s1 s2 s3 p q r i : Int) (w : World) (hok : okB v d s u st s0 s1 s2 s3 p q r = true) (hi0 : i = 0) : Calls Try.prog 21 #[.agg #[.int .i64 v, .int .i64 d, .int .i64 s, .int .i64 u, .int .i64 st, .int .i64 s0, .int .i64 s1, .int .i64 s2, .int .i64 s3, .int .i64 p, .int .i64 q, .int .i64 r], .int .i64 i] w fun e w' => e = .returned (.agg #[.int .i64 0, .int .i64 0, .int .i64 0, .int .i64 0, .int .i64 (highV d s), .bool false]) ∧ Below w.heap.size w w' := by
  have HB := Aside0.mk (Below.refl w.heap.size w)
  obtain ⟨lo, hlo⟩ : ∃ n, lowV d u = n := ⟨_, rfl⟩
  obtain ⟨hi, hhi⟩ : ∃ n, highV d s = n := ⟨_, rfl⟩
  have H2 := Aside0.mk hlo
  have H3 := Aside0.mk hhi
  try rw [hlo]
  try rw [hhi]
  clear hlo hhi
  subst hi0
  go_enter Try.func21, Try.ntmps21
  go_wp2_with fail
  refine (check_r v d s u st s0 s1 s2 s3 p q r _).mono ?_
  rw [hok]
  rintro e w1 ⟨n, x, rfl, hx, hb1⟩
  have D : IsBlk w1 (w.heap.size) #[.int .i64 v, .int .i64 d, .int .i64 s, .int .i64 u, .int .i64 st, .int .i64 s0, .int .i64 s1, .int .i64 s2, .int .i64 s3, .int .i64 p, .int .i64 q, .int .i64 r] 24 := IsBlk.below (by repeat (first | ((refine IsBlk.new _ _ ?_); (simp; done)) | apply IsBlk.alloc | apply IsBlk.drewN)) hb1
  have D_0 := blk_cell D 0
  have D_1 := blk_cell D 1
  have D_2 := blk_cell D 2
  have D_3 := blk_cell D 3
  have D_4 := blk_cell D 4
  have D_5 := blk_cell D 5
  have D_6 := blk_cell D 6
  have D_7 := blk_cell D 7
  have D_8 := blk_cell D 8
  have D_9 := blk_cell D 9
  have D_10 := blk_cell D 10
  have D_11 := blk_cell D 11
  simp only [List.getElem?_toArray, List.getElem?_cons_zero, List.getElem?_cons_succ] at D_0 D_1 D_2 D_3 D_4 D_5 D_6 D_7 D_8 D_9 D_10 D_11
  have D_z0 := blk_frozen D 0
  have D_z1 := blk_frozen D 1
  have D_z2 := blk_frozen D 2
  have D_z3 := blk_frozen D 3
  have D_z4 := blk_frozen D 4
  have D_z5 := blk_frozen D 5
  have D_z6 := blk_frozen D 6
  have D_z7 := blk_frozen D 7
  have D_z8 := blk_frozen D 8
  have D_z9 := blk_frozen D 9
  have D_z10 := blk_frozen D 10
  have D_z11 := blk_frozen D 11
  have D_l := blk_lt D
  have HD := Aside0.mk D
  clear D
  have R : IsBlk w1 (w.heap.size + 1) #[.int .i64 0, .int .i64 0, .int .i64 0, .int .i64 0, .int .i64 0, .bool false] 40 := IsBlk.below (by repeat (first | ((refine IsBlk.new _ _ ?_); (simp; done)) | apply IsBlk.alloc | apply IsBlk.drewN)) hb1
  have R_0 := blk_cell R 0
  have R_1 := blk_cell R 1
  have R_2 := blk_cell R 2
  have R_3 := blk_cell R 3
  have R_4 := blk_cell R 4
  have R_5 := blk_cell R 5
  simp only [List.getElem?_toArray, List.getElem?_cons_zero, List.getElem?_cons_succ] at R_0 R_1 R_2 R_3 R_4 R_5
  have R_z0 := blk_frozen R 0
  have R_z1 := blk_frozen R 1
  have R_z2 := blk_frozen R 2
  have R_z3 := blk_frozen R 3
  have R_z4 := blk_frozen R 4
  have R_z5 := blk_frozen R 5
  have R_l := blk_lt R
  have HR := Aside0.mk R
  clear R
  have n0 := Aside0.mk (below_step (by repeat (first | (with_reducible first | exact HB.out | apply below_alloc | apply pw_below_drewN | apply below_drew1) | refine below_set ?_ (by omega))) hb1)
  clear HB hb1
  have HB := n0
  clear n0
  have hx2 : (x != 0) = false := by simpa using hx
  have HX := Aside0.mk hx
  clear hx
  go_wp2_with fail
  refine (budget_r v d s u st s0 s1 s2 s3 p q r _).mono ?_
  rw [H2.out, H3.out]
  rintro e w2 ⟨rfl, hb1⟩
  have D' := IsBlk.below (by repeat (with_reducible first | exact HD.out | apply IsBlk.alloc | apply IsBlk.drewN | apply IsBlk.drew)) hb1
  clear D_0 D_1 D_2 D_3 D_4 D_5 D_6 D_7 D_8 D_9 D_10 D_11 D_z0 D_z1 D_z2 D_z3 D_z4 D_z5 D_z6 D_z7 D_z8 D_z9 D_z10 D_z11 D_l HD
  have D := D'
  clear D'
  have D_0 := blk_cell D 0
  have D_1 := blk_cell D 1
  have D_2 := blk_cell D 2
  have D_3 := blk_cell D 3
  have D_4 := blk_cell D 4
  have D_5 := blk_cell D 5
  have D_6 := blk_cell D 6
  have D_7 := blk_cell D 7
  have D_8 := blk_cell D 8
  have D_9 := blk_cell D 9
  have D_10 := blk_cell D 10
  have D_11 := blk_cell D 11
  simp only [List.getElem?_toArray, List.getElem?_cons_zero, List.getElem?_cons_succ] at D_0 D_1 D_2 D_3 D_4 D_5 D_6 D_7 D_8 D_9 D_10 D_11
  have D_z0 := blk_frozen D 0
  have D_z1 := blk_frozen D 1
  have D_z2 := blk_frozen D 2
  have D_z3 := blk_frozen D 3
  have D_z4 := blk_frozen D 4
  have D_z5 := blk_frozen D 5
  have D_z6 := blk_frozen D 6
  have D_z7 := blk_frozen D 7
  have D_z8 := blk_frozen D 8
  have D_z9 := blk_frozen D 9
  have D_z10 := blk_frozen D 10
  have D_z11 := blk_frozen D 11
  have D_l := blk_lt D
  have HD := Aside0.mk D
  clear D
  have R' := IsBlk.below (by repeat (with_reducible first | exact HR.out | apply IsBlk.alloc | apply IsBlk.drewN | apply IsBlk.drew)) hb1
  clear R_0 R_1 R_2 R_3 R_4 R_5 R_z0 R_z1 R_z2 R_z3 R_z4 R_z5 R_l HR
  have R := R'
  clear R'
  have R_0 := blk_cell R 0
  have R_1 := blk_cell R 1
  have R_2 := blk_cell R 2
  have R_3 := blk_cell R 3
  have R_4 := blk_cell R 4
  have R_5 := blk_cell R 5
  simp only [List.getElem?_toArray, List.getElem?_cons_zero, List.getElem?_cons_succ] at R_0 R_1 R_2 R_3 R_4 R_5
  have R_z0 := blk_frozen R 0
  have R_z1 := blk_frozen R 1
  have R_z2 := blk_frozen R 2
  have R_z3 := blk_frozen R 3
  have R_z4 := blk_frozen R 4
  have R_z5 := blk_frozen R 5
  have R_l := blk_lt R
  have HR := Aside0.mk R
  clear R
  have n0 := Aside0.mk (below_step (by repeat (first | (with_reducible first | exact HB.out | apply below_alloc | apply pw_below_drewN | apply below_drew1) | refine below_set ?_ (by omega))) hb1)
  clear HB hb1
  have HB := n0
  clear n0
  go_wp2
  exact bodyPost_ret (v := .agg #[.int .i64 0, .int .i64 0, .int .i64 0, .int .i64 0, .int .i64 hi, .bool false]) (by simp [results, Try.results21, go_sem, *]) rfl ⟨rfl, by repeat (first | (with_reducible first | exact HB.out | apply below_alloc | apply pw_below_drewN | apply below_drew1) | refine below_set ?_ (by omega))⟩

set_option maxRecDepth 100000 in
set_option maxHeartbeats 4000000 in
theorem back_r_i (v d s u st s0 s1 s2 s3 p q r i : Int) (w : World) (hok : okB v d s u st s0 s1 s2 s3 p q r = true) (hi1 : decide (i < 0) = false) (hi2 : (i == 0) = false) : Calls Try.prog 21 #[.agg #[.int .i64 v, .int .i64 d, .int .i64 s, .int .i64 u, .int .i64 st, .int .i64 s0, .int .i64 s1, .int .i64 s2, .int .i64 s3, .int .i64 p, .int .i64 q, .int .i64 r], .int .i64 i] w fun e w' => e = .returned (.agg #[.int .i64 i, .int .i64 d, .int .i64 d, .int .i64 (lowV d u), .int .i64 (highV d s), .bool false]) ∧ Below w.heap.size w w' := by
  have HB := Aside0.mk (Below.refl w.heap.size w)
  obtain ⟨lo, hlo⟩ : ∃ n, lowV d u = n := ⟨_, rfl⟩
  obtain ⟨hi, hhi⟩ : ∃ n, highV d s = n := ⟨_, rfl⟩
  have H2 := Aside0.mk hlo
  have H3 := Aside0.mk hhi
  try rw [hlo]
  try rw [hhi]
  clear hlo hhi
  go_enter Try.func21, Try.ntmps21
  go_wp2_with fail
  refine (check_r v d s u st s0 s1 s2 s3 p q r _).mono ?_
  rw [hok]
  rintro e w1 ⟨n, x, rfl, hx, hb1⟩
  have D : IsBlk w1 (w.heap.size) #[.int .i64 v, .int .i64 d, .int .i64 s, .int .i64 u, .int .i64 st, .int .i64 s0, .int .i64 s1, .int .i64 s2, .int .i64 s3, .int .i64 p, .int .i64 q, .int .i64 r] 24 := IsBlk.below (by repeat (first | ((refine IsBlk.new _ _ ?_); (simp; done)) | apply IsBlk.alloc | apply IsBlk.drewN)) hb1
  have D_0 := blk_cell D 0
  have D_1 := blk_cell D 1
  have D_2 := blk_cell D 2
  have D_3 := blk_cell D 3
  have D_4 := blk_cell D 4
  have D_5 := blk_cell D 5
  have D_6 := blk_cell D 6
  have D_7 := blk_cell D 7
  have D_8 := blk_cell D 8
  have D_9 := blk_cell D 9
  have D_10 := blk_cell D 10
  have D_11 := blk_cell D 11
  simp only [List.getElem?_toArray, List.getElem?_cons_zero, List.getElem?_cons_succ] at D_0 D_1 D_2 D_3 D_4 D_5 D_6 D_7 D_8 D_9 D_10 D_11
  have D_z0 := blk_frozen D 0
  have D_z1 := blk_frozen D 1
  have D_z2 := blk_frozen D 2
  have D_z3 := blk_frozen D 3
  have D_z4 := blk_frozen D 4
  have D_z5 := blk_frozen D 5
  have D_z6 := blk_frozen D 6
  have D_z7 := blk_frozen D 7
  have D_z8 := blk_frozen D 8
  have D_z9 := blk_frozen D 9
  have D_z10 := blk_frozen D 10
  have D_z11 := blk_frozen D 11
  have D_l := blk_lt D
  have HD := Aside0.mk D
  clear D
  have R : IsBlk w1 (w.heap.size + 1) #[.int .i64 0, .int .i64 0, .int .i64 0, .int .i64 0, .int .i64 0, .bool false] 40 := IsBlk.below (by repeat (first | ((refine IsBlk.new _ _ ?_); (simp; done)) | apply IsBlk.alloc | apply IsBlk.drewN)) hb1
  have R_0 := blk_cell R 0
  have R_1 := blk_cell R 1
  have R_2 := blk_cell R 2
  have R_3 := blk_cell R 3
  have R_4 := blk_cell R 4
  have R_5 := blk_cell R 5
  simp only [List.getElem?_toArray, List.getElem?_cons_zero, List.getElem?_cons_succ] at R_0 R_1 R_2 R_3 R_4 R_5
  have R_z0 := blk_frozen R 0
  have R_z1 := blk_frozen R 1
  have R_z2 := blk_frozen R 2
  have R_z3 := blk_frozen R 3
  have R_z4 := blk_frozen R 4
  have R_z5 := blk_frozen R 5
  have R_l := blk_lt R
  have HR := Aside0.mk R
  clear R
  have n0 := Aside0.mk (below_step (by repeat (first | (with_reducible first | exact HB.out | apply below_alloc | apply pw_below_drewN | apply below_drew1) | refine below_set ?_ (by omega))) hb1)
  clear HB hb1
  have HB := n0
  clear n0
  have hx2 : (x != 0) = false := by simpa using hx
  have HX := Aside0.mk hx
  clear hx
  go_wp2_with fail
  refine (budget_r v d s u st s0 s1 s2 s3 p q r _).mono ?_
  rw [H2.out, H3.out]
  rintro e w2 ⟨rfl, hb1⟩
  have D' := IsBlk.below (by repeat (with_reducible first | exact HD.out | apply IsBlk.alloc | apply IsBlk.drewN | apply IsBlk.drew)) hb1
  clear D_0 D_1 D_2 D_3 D_4 D_5 D_6 D_7 D_8 D_9 D_10 D_11 D_z0 D_z1 D_z2 D_z3 D_z4 D_z5 D_z6 D_z7 D_z8 D_z9 D_z10 D_z11 D_l HD
  have D := D'
  clear D'
  have D_0 := blk_cell D 0
  have D_1 := blk_cell D 1
  have D_2 := blk_cell D 2
  have D_3 := blk_cell D 3
  have D_4 := blk_cell D 4
  have D_5 := blk_cell D 5
  have D_6 := blk_cell D 6
  have D_7 := blk_cell D 7
  have D_8 := blk_cell D 8
  have D_9 := blk_cell D 9
  have D_10 := blk_cell D 10
  have D_11 := blk_cell D 11
  simp only [List.getElem?_toArray, List.getElem?_cons_zero, List.getElem?_cons_succ] at D_0 D_1 D_2 D_3 D_4 D_5 D_6 D_7 D_8 D_9 D_10 D_11
  have D_z0 := blk_frozen D 0
  have D_z1 := blk_frozen D 1
  have D_z2 := blk_frozen D 2
  have D_z3 := blk_frozen D 3
  have D_z4 := blk_frozen D 4
  have D_z5 := blk_frozen D 5
  have D_z6 := blk_frozen D 6
  have D_z7 := blk_frozen D 7
  have D_z8 := blk_frozen D 8
  have D_z9 := blk_frozen D 9
  have D_z10 := blk_frozen D 10
  have D_z11 := blk_frozen D 11
  have D_l := blk_lt D
  have HD := Aside0.mk D
  clear D
  have R' := IsBlk.below (by repeat (with_reducible first | exact HR.out | apply IsBlk.alloc | apply IsBlk.drewN | apply IsBlk.drew)) hb1
  clear R_0 R_1 R_2 R_3 R_4 R_5 R_z0 R_z1 R_z2 R_z3 R_z4 R_z5 R_l HR
  have R := R'
  clear R'
  have R_0 := blk_cell R 0
  have R_1 := blk_cell R 1
  have R_2 := blk_cell R 2
  have R_3 := blk_cell R 3
  have R_4 := blk_cell R 4
  have R_5 := blk_cell R 5
  simp only [List.getElem?_toArray, List.getElem?_cons_zero, List.getElem?_cons_succ] at R_0 R_1 R_2 R_3 R_4 R_5
  have R_z0 := blk_frozen R 0
  have R_z1 := blk_frozen R 1
  have R_z2 := blk_frozen R 2
  have R_z3 := blk_frozen R 3
  have R_z4 := blk_frozen R 4
  have R_z5 := blk_frozen R 5
  have R_l := blk_lt R
  have HR := Aside0.mk R
  clear R
  have n0 := Aside0.mk (below_step (by repeat (first | (with_reducible first | exact HB.out | apply below_alloc | apply pw_below_drewN | apply below_drew1) | refine below_set ?_ (by omega))) hb1)
  clear HB hb1
  have HB := n0
  clear n0
  go_wp2
  exact bodyPost_ret (v := .agg #[.int .i64 i, .int .i64 d, .int .i64 d, .int .i64 lo, .int .i64 hi, .bool false]) (by simp [results, Try.results21, go_sem, *]) rfl ⟨rfl, by repeat (first | (with_reducible first | exact HB.out | apply below_alloc | apply pw_below_drewN | apply below_drew1) | refine below_set ?_ (by omega))⟩

/-- The goal of going back. -/
def backC (v d s u st s0 s1 s2 s3 p q r i : Int) : Array Value := if okB v d s u st s0 s1 s2 s3 p q r = true then (if decide (i < 0) = true then #[.int .i64 0, .int .i64 0, .int .i64 0, .int .i64 0, .int .i64 0, .bool false] else if i = 0 then #[.int .i64 0, .int .i64 0, .int .i64 0, .int .i64 0, .int .i64 (highV d s), .bool false] else #[.int .i64 i, .int .i64 d, .int .i64 d, .int .i64 (lowV d u), .int .i64 (highV d s), .bool false]) else #[.int .i64 0, .int .i64 0, .int .i64 0, .int .i64 0, .int .i64 0, .bool false]
theorem back_q (v d s u st s0 s1 s2 s3 p q r i : Int) (w : World) : Calls Try.prog 20 #[.agg #[.int .i64 v, .int .i64 d, .int .i64 s, .int .i64 u, .int .i64 st, .int .i64 s0, .int .i64 s1, .int .i64 s2, .int .i64 s3, .int .i64 p, .int .i64 q, .int .i64 r], .int .i64 i] w fun e w' => e = .returned (.agg (backC v d s u st s0 s1 s2 s3 p q r i)) ∧ Below w.heap.size w w' := by
  unfold backC
  cases hok : okB v d s u st s0 s1 s2 s3 p q r with
  | false => rw [if_neg (by decide)]; exact back_bad v d s u st s0 s1 s2 s3 p q r i w hok
  | true =>
    rw [if_pos rfl]
    cases hi : decide (i < 0) with
    | true => rw [if_pos rfl]; exact back_neg v d s u st s0 s1 s2 s3 p q r i w hok hi
    | false =>
      rw [if_neg (by decide)]
      by_cases h0 : i = 0
      · rw [if_pos h0]; exact back_0 v d s u st s0 s1 s2 s3 p q r i w hok h0
      · rw [if_neg h0]; exact back_i v d s u st s0 s1 s2 s3 p q r i w hok hi (by simpa using h0)
theorem back_r (v d s u st s0 s1 s2 s3 p q r i : Int) (w : World) : Calls Try.prog 21 #[.agg #[.int .i64 v, .int .i64 d, .int .i64 s, .int .i64 u, .int .i64 st, .int .i64 s0, .int .i64 s1, .int .i64 s2, .int .i64 s3, .int .i64 p, .int .i64 q, .int .i64 r], .int .i64 i] w fun e w' => e = .returned (.agg (backC v d s u st s0 s1 s2 s3 p q r i)) ∧ Below w.heap.size w w' := by
  unfold backC
  cases hok : okB v d s u st s0 s1 s2 s3 p q r with
  | false => rw [if_neg (by decide)]; exact back_r_bad v d s u st s0 s1 s2 s3 p q r i w hok
  | true =>
    rw [if_pos rfl]
    cases hi : decide (i < 0) with
    | true => rw [if_pos rfl]; exact back_r_neg v d s u st s0 s1 s2 s3 p q r i w hok hi
    | false =>
      rw [if_neg (by decide)]
      by_cases h0 : i = 0
      · rw [if_pos h0]; exact back_r_0 v d s u st s0 s1 s2 s3 p q r i w hok h0
      · rw [if_neg h0]; exact back_r_i v d s u st s0 s1 s2 s3 p q r i w hok hi (by simpa using h0)

theorem all12 {b0 b1 b2 b3 b4 b5 b6 b7 b8 b9 b10 b11 : Bool} (h : [b0, b1, b2, b3, b4, b5, b6, b7, b8, b9, b10, b11].all (fun b => b) = true) : b1 = true ∧ b5 = true ∧ b6 = true ∧ b7 = true ∧ b8 = true := by
  simp at h
  exact ⟨h.2.1, h.2.2.2.2.2.1, h.2.2.2.2.2.2.1, h.2.2.2.2.2.2.2.1, h.2.2.2.2.2.2.2.2.1⟩
theorem step_st {st n last : Int} {i : Bool} (h : stepB st n last i = true) (hs : st ≠ 0) : n = 0 := by
  unfold stepB at h
  rw [if_pos (.inl hs)] at h
  simpa using h
theorem step_ok {st n last : Int} {i : Bool} (h : stepB st n last i = true) (hl : st = 0 → 0 ≤ last) : 0 ≤ n ∧ n ≤ 100 := by
  by_cases hs : st = 0
  · exact step_last h hl hs
  · have := step_st h hs
    omega
theorem steps_ok {v d s u st s0 s1 s2 s3 p q r : Int} (h : okB v d s u st s0 s1 s2 s3 p q r = true) : ∀ x ∈ stepsL s0 s1 s2 s3, 1 ≤ x ∧ x ≤ 100 := by
  unfold okB okL at h
  obtain ⟨_, h0, h1, h2, h3⟩ := all12 h
  have g0 := step_ok h0 (fun _ => Int.le_refl 0)
  have g1 := step_ok h1 (fun _ => g0.1)
  have g2 := step_ok h2 (fun _ => g1.1)
  have g3 := step_ok h3 (fun _ => g2.1)
  intro x hx
  unfold stepsL at hx
  have hm := (List.takeWhile_sublist _).subset hx
  have hp : x ≠ 0 := by
    have := List.all_takeWhile (p := fun n : Int => n != 0) (l := [s0, s1, s2, s3])
    have := List.all_eq_true.1 this x hx
    simpa using this
  simp at hm
  omega
theorem pct_bound (n d : Int) (hn : 1 ≤ n ∧ n ≤ 100) (hd : 1 ≤ d ∧ d ≤ 16) : 1 ≤ pct n d ∧ pct n d ≤ 16 := by
  unfold pct
  have e1 : mn (mx n 0) 100 = n := by unfold mn mx; (repeat' split) <;> omega
  have e2 : mn (mx d 0) 1048576 = d := by unfold mn mx; (repeat' split) <;> omega
  rw [e1, e2]
  have h0 : 1 * 1 ≤ n * d := Int.mul_le_mul hn.1 hd.1 (by decide) (by omega)
  have h1 : n * d ≤ 100 * d := Int.mul_le_mul_of_nonneg_right hn.2 (by omega)
  generalize n * d = z at *
  have hz : wrap64 z = z := by unfold wrap64; omega
  rw [hz]
  have e3 : wrap64 (z + 99) = z + 99 := by unfold wrap64; omega
  rw [e3, Int.tdiv_eq_ediv_of_nonneg (by omega)]
  have e4 : wrap64 ((z + 99) / 100) = (z + 99) / 100 := by unfold wrap64; omega
  rw [e4]
  omega
theorem targets_ok (v d s u st s0 s1 s2 s3 p q r : Int) : ∀ x ∈ targetsL v d s u st s0 s1 s2 s3 p q r, 1 ≤ x ∧ x ≤ 16 := by
  intro x hx
  unfold targetsL at hx
  split at hx
  · rename_i h
    have hs := steps_ok h
    unfold okB okL at h
    have hd := (all12 h).1
    unfold betw at hd
    have hd' : 1 ≤ d ∧ d ≤ 16 := by simpa using hd
    rcases List.mem_append.1 hx with h1 | h1
    · obtain ⟨n, hn, rfl⟩ := List.mem_map.1 h1
      exact pct_bound n d (hs n hn) hd'
    · simp at h1
      omega
  · cases hx
/-- The target before the place k. -/
def Sb (l : List Int) (k : Nat) : Int := if k = 0 then 0 else l.getD (k - 1) 0
theorem dif_snoc (l : List Int) (j k : Nat) (hj : j < l.length) (hk : k ≤ j) (hw : wrap64 (l.getD 0 0) = l.getD 0 0) : (dif (l.take (j + 1)) 0).take (k + 1) = (dif (l.take (j + 1)) 0).take k ++ [wrap64 (l.getD k 0 - Sb l k)] := by
  have hlen : (l.take (j + 1)).length = j + 1 := by rw [List.length_take]; omega
  have g (x : Nat) (hx : x ≤ j) : (l.take (j + 1)).getD x 0 = l.getD x 0 := by
    rw [List.getD_eq_getElem?_getD, List.getD_eq_getElem?_getD, List.getElem?_take_of_lt (by omega)]
  have hd : k < (dif (l.take (j + 1)) 0).length := by rw [dif_len, hlen]; omega
  rw [List.take_succ_eq_append_getElem hd]
  congr 1
  have e : (dif (l.take (j + 1)) 0)[k] = (dif (l.take (j + 1)) 0).getD k 0 := by rw [List.getD_eq_getElem?_getD]; simp [hd]
  rw [e, dif_get _ _ _ (by omega)]
  unfold Sb
  by_cases h0 : k = 0
  · subst h0
    rw [if_neg (by omega), if_pos rfl, g 0 (by omega), Int.sub_zero, hw]
  · rw [if_pos (by omega), if_neg h0, g k hk, g (k - 1) (by omega)]

set_option maxRecDepth 100000 in
set_option maxHeartbeats 4000000 in
theorem share_r (v d s u st s0 s1 s2 s3 p q r i : Int) (w : World) : Calls Try.prog 17 #[.agg #[.int .i64 v, .int .i64 d, .int .i64 s, .int .i64 u, .int .i64 st, .int .i64 s0, .int .i64 s1, .int .i64 s2, .int .i64 s3, .int .i64 p, .int .i64 q, .int .i64 r], .int .i64 i] w fun e w' => ∃ vv, e = .returned vv ∧ RowI w' w.heap.size vv (shareL v d s u st s0 s1 s2 s3 p q r i) ∧ Below w.heap.size w w' := by
  have HB := Aside0.mk (Below.refl w.heap.size w)
  have hall := targets_ok v d s u st s0 s1 s2 s3 p q r
  obtain ⟨l, hl⟩ : ∃ l, targetsL v d s u st s0 s1 s2 s3 p q r = l := ⟨_, rfl⟩
  have ht := targets_upto v d s u st s0 s1 s2 s3 p q r
  obtain ⟨z, hz⟩ : ∃ z, shareL v d s u st s0 s1 s2 s3 p q r i = z := ⟨_, rfl⟩
  rw [hz]
  have hz0 : z = if (if 0 ≤ i ∧ i < (l.length : Int) then l.getD i.toNat 0 else 0) == 0 then [] else dif (l.take (i.toNat + 1)) 0 := by rw [← hz, ← hl]; rfl
  clear hz
  rw [hl] at ht hall
  have HL := Aside0.mk hl
  clear hl
  have HZ := Aside0.mk hz0
  clear hz0
  go_enter Try.func17, Try.ntmps17
  go_wp2_with fail
  refine (targets_r v d s u st s0 s1 s2 s3 p q r _).mono ?_
  rintro e w2 ⟨vv, rfl, hR, hb1⟩
  rw [HL.out] at hR
  obtain ⟨A1, c1, rfl, hlc, _⟩ := Kd.R_reads hR
  have HR0 := Aside0.mk hR
  have HALL := Aside0.mk hall
  have n0 := Aside0.mk (below_step (by repeat (first | (with_reducible first | exact HB.out | apply below_alloc | apply pw_below_drewN | apply below_drew1) | refine below_set ?_ (by omega))) hb1)
  clear HB hb1 hR hall
  have HB := n0
  clear n0
  have hmax : (l.length : Int) ≤ 5 := by omega
  by_cases h0 : i < 0
  · have h1 : decide (i < 0) = true := by simpa using h0
    have hv : ¬ (0 ≤ i ∧ i < (l.length : Int)) := by omega
    obtain rfl : z = [] := by rw [HZ.out, if_neg hv]; rfl
    clear hv HZ
    go_wp2
    go_ret
    exact ⟨_, rfl, Kd.R_nil _ _ _ _ _, by repeat (first | (with_reducible first | exact HB.out | apply below_alloc | apply pw_below_drewN | apply below_drew1) | refine below_set ?_ (by omega))⟩
  · have h1 : decide (i < 0) = false := by simpa using h0
    by_cases hlt : i < (l.length : Int)
    · have h2 : decide ((l.length : Int) ≤ i) = false := by simp; omega
      obtain ⟨j, rfl⟩ : ∃ j : Nat, i = j := ⟨i.toNat, by omega⟩
      have hjl : j < l.length := by omega
      have h2n : decide (l.length ≤ j) = false := by simp; omega
      have hmem : ∀ x, x < l.length → 1 ≤ l.getD x 0 ∧ l.getD x 0 ≤ 16 := fun x hx => HALL.out _ (by rw [List.getD_eq_getElem?_getD]; simp [hx])
      have hz : z = dif (l.take (j + 1)) 0 := by
        have := hmem j hjl
        have e : (if 0 ≤ (j : Int) ∧ (j : Int) < (l.length : Int) then l.getD (j : Int).toNat 0 else 0) = l.getD j 0 := by rw [if_pos (by omega), Int.toNat_natCast]
        have e0 : (l.getD j 0 == 0) = false := by rw [beq_eq_false_iff_ne]; omega
        rw [HZ.out, e, Int.toNat_natCast, e0, if_neg (by decide)]
      have hw0 : wrap64 (l.getD 0 0) = l.getD 0 0 := by
        have := hmem 0 (by omega)
        unfold wrap64
        omega
      have hsn := fun k hk => dif_snoc l j k hjl hk hw0
      rw [← hz] at hsn
      have hzl : z.length = j + 1 := by rw [hz, dif_len, List.length_take]; omega
      have HSN := Aside0.mk hsn
      have HZL := Aside0.mk hzl
      clear hsn hzl hz hw0 hmem HZ
      have hB2 := HB
      clear HB
      have hj4 : (j : Int) ≤ 4 := by omega
      go_wp2_with fail
      go_loopw [6, 7, 8] (fun v6 v7 v8 wr => ∃ (k : Nat), v8 = .int .i64 k ∧ k ≤ j + 1 ∧ v7 = .int .i64 (Sb l k) ∧ Aside0 (RowI wr w2.heap.size v6 (z.take k)) ∧ Aside0 (Kd.R (Kd.int .i64) 3 wr w.heap.size (fun k => k < w2.heap.size) (.slice A1 l.length c1) l) ∧ Aside0 (Below w2.heap.size w2 wr)) (fun _ _ v8 _ => j + 1 - (intOf v8).toNat)
      case atStart => exact ⟨0, rfl, by omega, rfl, ⟨Kd.R_nil _ _ _ _ _⟩, ⟨Kd.R_mono (Kd.R_lower (Kd.R_bound HR0.out) (by simp)) (fun k hk => hk.2.2.1)⟩, ⟨Below.refl _ _⟩⟩
      case round =>
        obtain ⟨k, rfl, hk, rfl, HO, HR, HB⟩ := hrel
        obtain ⟨b, hb⟩ : ∃ b, Sb l k = b := ⟨_, rfl⟩
        rw [hb]
        have HX : Aside0 ((z.take k).length ≤ 1000) := ⟨by have := List.length_take_le k z; omega⟩
        by_cases hkj : k ≤ j
        · have hi1 : decide ((k : Int) ≤ (j : Int)) = true := by simp; omega
          have hi1n : decide (k ≤ j) = true := by simp; omega
          have hki : (k : Int) < (l.length : Int) := by omega
          have hkl : k < l.length := by omega
          obtain ⟨rb, ro, rfl, hrb, ck⟩ := row_at (Kd.R_mono HR.out (fun _ _ => trivial)) k hkl
          obtain ⟨a, ha⟩ : ∃ a, l.getD k 0 = a := ⟨_, rfl⟩
          rw [ha] at ck
          have he := HSN.out k hkj
          rw [ha, hb] at he
          have hSb : Sb l (k + 1) = a := by unfold Sb; rw [if_neg (by omega), Nat.add_sub_cancel, ha]
          have HE := Aside0.mk he
          have HA := Aside0.mk ha
          have HS := Aside0.mk hSb
          have HKL := Aside0.mk hkl
          have hsep : ∀ k, k < w2.heap.size → some k ≠ u6.ownBlock := fun k hk e => by
            obtain ⟨inner, ho⟩ := Kd.R_own HO.out
            have := own_base ho k e.symm
            omega
          have HSEP := Aside0.mk hsep
          clear hsep ha hb he hSb hkl
          go_wp2_with (
            (with_reducible refine gate_builtin (b := .append) (xs := #[.tmp 24, .tmp 31]) rfl ?_)
            at_builtin
            refine Kd.R_append (Kd.int .i64) (w0 := w2) w2.heap.size rfl (.tmp 24) (.tmp 31) 27 3 (.int .i64 0) 8 rfl Try.underlying27 info3 rfl (by decide) (by omega) u6 (z.take k) (wrap64 (a - b)) [.int .i64 (wrap64 (a - b))] (fun _ => True) (fun _ => False) rfl (by first | (go_simp; done) | (go_simp; rfl)) ?aP (fun _ hk => hk.elim) (fun _ _ => trivial) ?aO ?aB ?aS ?aL ?_
            case aP => exact rfl
            case aO => exact (by (with_reducible repeat (first | apply Kd.R_alloc | apply Kd.R_drewN | apply Kd.R_drew)); exact HO.out)
            case aB => exact (by repeat (first | (with_reducible first | exact HB.out | apply below_alloc | apply pw_below_drewN | apply below_drew1) | refine below_set ?_ (by omega)))
            case aS => exact below_size (by repeat (first | (with_reducible first | exact HB.out | apply below_alloc | apply pw_below_drewN | apply below_drew1) | refine below_set ?_ (by omega)))
            case aL => have := HX.out; omega
            intro v1 w4 ho hb hg hat
            have nR := Aside0.mk (Kd.R_grown (by (with_reducible repeat (first | apply Kd.R_alloc | apply Kd.R_drewN | apply Kd.R_drew)); exact HR.out) hg HSEP.out)
            have HO1 := Aside0.mk ho
            have HB1 := Aside0.mk hb
            clear ho hb hg hat HO HB HR
            obtain ⟨rb2, ro2, e2, hrb2, ck2⟩ := row_at (Kd.R_mono nR.out (fun _ _ => trivial)) k HKL.out
            obtain ⟨e3, e4⟩ : rb2 = rb ∧ ro2 = ro := by cases e2; exact ⟨rfl, rfl⟩
            subst e3 e4
            rw [HA.out] at ck2
            clear e2)
          go_roundw
          case rel => exact ⟨k + 1, by go_num, by omega, by rw [HS.out], ⟨by rw [HE.out]; exact HO1.out⟩, nR, HB1⟩
          case measure => simp [intOf]; omega
        · have hi1 : decide ((k : Int) ≤ (j : Int)) = false := by simp; omega
          have hi1n : decide (k ≤ j) = false := by simp; omega
          obtain rfl : k = j + 1 := by omega
          go_wp2
          go_ret
          refine ⟨_, rfl, ?_, below_step hB2.out HB.out⟩
          have h := HO.out
          rw [List.take_of_length_le (by have := HZL.out; omega)] at h
          exact Kd.R_lower h (below_size hB2.out)
    · have h2 : decide ((l.length : Int) ≤ i) = true := by simp; omega
      have hv : ¬ (0 ≤ i ∧ i < (l.length : Int)) := by omega
      obtain rfl : z = [] := by rw [HZ.out, if_neg hv]; rfl
      clear hv HZ
      go_wp2
      go_ret
      exact ⟨_, rfl, Kd.R_nil _ _ _ _ _, by repeat (first | (with_reducible first | exact HB.out | apply below_alloc | apply pw_below_drewN | apply below_drew1) | refine below_set ?_ (by omega))⟩
end Go.Proofs.Ytfnpepfabbgpfaa.R4
