/-
  Proved here: SlotSettles answers true, of any slot. No condition.
-/
import Derived.Test.YtiegioncmpkpcaaS5
namespace Go.Proofs.Ytiegioncmpkpcaa.WalkSlotSettles
open Go.RowKit Go.Proofs.Ytiegioncmpkpcaa.S0 Go.Proofs.Ytiegioncmpkpcaa.S1 Go.Proofs.Ytiegioncmpkpcaa.S2 Go.Proofs.Ytiegioncmpkpcaa.S3 Go.Proofs.Ytiegioncmpkpcaa.S4 Go.Proofs.Ytiegioncmpkpcaa.S5 Go.Proofs.YtiegioncmpkpcaaW.PrintWords Go.Proofs.YtiegioncmpkpcaaW.PrintLast Go.Proofs.YtiegioncmpkpcaaW.PrintMore
set_option linter.unusedVariables false
set_option linter.unusedSimpArgs false

/-- How many steps it is from being settled. -/
def far (s : Sl) : Nat := if s.st = 4 then (if s.want = 0 then 1 else 3) else if s.st = 0 then (if s.want = 0 then 0 else 2) else if s.st = 1 then 1 else 0
/-- A slot that goes on to what is wanted. -/
def ok (s : Sl) : Prop := right s = true ∧ (s.st = 0 ∨ s.st = 4 ∨ (s.st = 1 ∨ s.st = 2) ∧ s.ver = s.want)
theorem ok_step (s : Sl) (h : ok s) : (goes s).2 = !settled s ∧ ok (goes s).1 ∧ (far (goes s).1 + 1 ≤ far s ∨ far s = 0 ∧ far (goes s).1 = 0 ∧ (goes s).1 = s) ∧ (far s = 0 ↔ settled s = true) := by
  obtain ⟨a, b, c, d⟩ := s
  obtain ⟨hr, h⟩ := h
  have hr' := hr
  unfold right at hr'
  simp only [decide_eq_true_eq] at hr' h
  unfold goes
  rw [if_pos hr]
  simp only
  rcases h with rfl | rfl | ⟨rfl | rfl, rfl⟩
  · by_cases hc : 0 < c
    · have h0 : c ≠ 0 := by omega
      refine ⟨by simp [hc, settled, h0], ?_, by simp [hc, far, h0], by simp [far, settled, h0]⟩
      simp only [if_true, hc, ok, right, decide_eq_true_eq]
      first | omega | (simp; omega) | (simp; done) | exact ⟨hr, .inr (.inr ⟨.inr rfl, rfl⟩)⟩
    · have h0 : c = 0 := by omega
      subst h0
      refine ⟨by simp [settled], ?_, by simp [far], by simp [far, settled]⟩
      simp only [if_true, ok]
      exact ⟨hr, .inl rfl⟩
  · by_cases hc : c = 0
    · subst hc
      refine ⟨by simp [settled], ?_, by simp [far], by simp [far, settled]⟩
      simp only [ok, right, decide_eq_true_eq, if_true]
      first | omega | (simp; omega) | (simp; done) | exact ⟨hr, .inr (.inr ⟨.inr rfl, rfl⟩)⟩
    · refine ⟨by simp [settled], ?_, by simp [far, hc], by simp [far, settled, hc]⟩
      simp only [ok, right, decide_eq_true_eq, if_true]
      first | omega | (simp; omega) | (simp; done) | exact ⟨hr, .inr (.inr ⟨.inr rfl, rfl⟩)⟩
  · refine ⟨by simp [settled], ?_, by simp [far], by simp [far, settled]⟩
    simp only [ok, right, decide_eq_true_eq, if_true]
    first | omega | (simp; omega) | (simp; done) | exact ⟨hr, .inr (.inr ⟨.inr rfl, rfl⟩)⟩
  · refine ⟨by simp [settled], ?_, by simp [far], by simp [far, settled]⟩
    simp only [ok]
    first | omega | (simp; omega) | (simp; done) | exact ⟨hr, .inr (.inr ⟨.inr rfl, rfl⟩)⟩

set_option maxHeartbeats 4000000 in
theorem hurt (a b c d x0 x1 x2 x3 : Int) (w : World) (e_X : good ⟨a, b, c, d⟩ = ⟨x0, x1, x2, x3⟩) (e_Y : goes ⟨x0, x1, x2, x3⟩ = (⟨x0, x1, x2, x3⟩, false)) (h1 : (x0 == 3) = true) (h2 : (x0 == 1) = false) : Calls Try.prog 4 #[sv ⟨a, b, c, d⟩] w fun e w' => e = .returned (.bool true) ∧ Below w.heap.size w w' := by
  have HX := Aside0.mk e_X
  clear e_X
  have HY := Aside0.mk e_Y
  clear e_Y
  unfold sv
  have HB := Aside0.mk (Below.refl w.heap.size w)
  go_enter Try.func4, Try.ntmps4
  go_wp2_with fail
  refine (lives_any _).mono ?_
  rintro e w1 ⟨rfl, hb1⟩
  have s1_0 : IsB w1 (w.heap.size) 23 a b c d := IsB.below (by repeat (first | ((refine isB_at _ _ _ _ _ ?_); (simp; done)) | apply IsB.alloc)) hb1
  have cs1_0_0 := blk_cell s1_0 0
  have cs1_0_1 := blk_cell s1_0 1
  have cs1_0_2 := blk_cell s1_0 2
  have cs1_0_3 := blk_cell s1_0 3
  simp only [List.getElem?_toArray, List.getElem?_cons_zero, List.getElem?_cons_succ] at cs1_0_0 cs1_0_1 cs1_0_2 cs1_0_3
  have ls1_0 := blk_lt s1_0
  have Hs1_0 := Aside0.mk s1_0; clear s1_0
  have n0 := Aside0.mk (below_step (by repeat (first | (with_reducible first | exact HB.out | apply below_alloc | apply pw_below_drewN) | refine below_set ?_ (by omega))) hb1)
  clear HB hb1
  have HB := n0; clear n0
  go_wp2_with fail
  refine (good_any ⟨a, b, c, d⟩ _).mono ?_
  rintro e w2 ⟨rfl, hb2⟩
  have s2_0 : IsB w2 (w.heap.size) 23 a b c d := IsB.below (by repeat (with_reducible first | exact Hs1_0.out | apply IsB.alloc | apply IsB.drewN)) hb2
  have cs2_0_0 := blk_cell s2_0 0
  have cs2_0_1 := blk_cell s2_0 1
  have cs2_0_2 := blk_cell s2_0 2
  have cs2_0_3 := blk_cell s2_0 3
  simp only [List.getElem?_toArray, List.getElem?_cons_zero, List.getElem?_cons_succ] at cs2_0_0 cs2_0_1 cs2_0_2 cs2_0_3
  have ls2_0 := blk_lt s2_0
  have Hs2_0 := Aside0.mk s2_0; clear s2_0
  clear ls1_0 cs1_0_0 cs1_0_1 cs1_0_2 cs1_0_3
  have n0 := Aside0.mk (below_step (by repeat (first | (with_reducible first | exact HB.out | apply below_alloc | apply pw_below_drewN) | refine below_set ?_ (by omega))) hb2)
  clear HB hb2
  have HB := n0; clear n0
  rw [HX.out]
  dsimp only [sv]
  go_wp2_with fail
  refine (go_any ⟨x0, x1, x2, x3⟩ _).mono ?_
  rintro e w3 ⟨rfl, hb3⟩
  have s3_0 : IsB w3 (w.heap.size) 23 a b c d := IsB.below (by repeat (with_reducible first | exact Hs2_0.out | apply IsB.alloc | apply IsB.drewN)) hb3
  have cs3_0_0 := blk_cell s3_0 0
  have cs3_0_1 := blk_cell s3_0 1
  have cs3_0_2 := blk_cell s3_0 2
  have cs3_0_3 := blk_cell s3_0 3
  simp only [List.getElem?_toArray, List.getElem?_cons_zero, List.getElem?_cons_succ] at cs3_0_0 cs3_0_1 cs3_0_2 cs3_0_3
  have ls3_0 := blk_lt s3_0
  have Hs3_0 := Aside0.mk s3_0; clear s3_0
  clear ls2_0 cs2_0_0 cs2_0_1 cs2_0_2 cs2_0_3
  have s3_1 : IsB w3 (w2.heap.size) 25 x0 x1 x2 x3 := IsB.below (by repeat (first | ((refine isB_at _ _ _ _ _ ?_); (simp; done)) | apply IsB.alloc)) hb3
  have cs3_1_0 := blk_cell s3_1 0
  have cs3_1_1 := blk_cell s3_1 1
  have cs3_1_2 := blk_cell s3_1 2
  have cs3_1_3 := blk_cell s3_1 3
  simp only [List.getElem?_toArray, List.getElem?_cons_zero, List.getElem?_cons_succ] at cs3_1_0 cs3_1_1 cs3_1_2 cs3_1_3
  have ls3_1 := blk_lt s3_1
  have Hs3_1 := Aside0.mk s3_1; clear s3_1
  have n0 := Aside0.mk (below_step (by repeat (first | (with_reducible first | exact HB.out | apply below_alloc | apply pw_below_drewN) | refine below_set ?_ (by omega))) hb3)
  clear HB hb3
  have HB := n0; clear n0
  rw [HY.out]
  dsimp only [sv]
  go_wp2
  go_ret
  exact ⟨rfl, by repeat (first | (with_reducible first | exact HB.out | apply below_alloc | apply pw_below_drewN) | refine below_set ?_ (by omega))⟩

set_option maxHeartbeats 4000000 in
theorem start (a b c d x0 x1 x2 x3 : Int) (w : World) (e_X : good ⟨a, b, c, d⟩ = ⟨x0, x1, x2, x3⟩) (e_Y : goes ⟨x0, x1, x2, x3⟩ = (⟨2, x1, x2, x3⟩, true)) (h1 : (x0 == 3) = false) (h3 : (x0 != 0) = true) (h4 : (x0 != 4) = true) (h5 : (x1 != x2) = true) (h2 : (x0 == 1) = true) : Calls Try.prog 4 #[sv ⟨a, b, c, d⟩] w fun e w' => e = .returned (.bool true) ∧ Below w.heap.size w w' := by
  have HX := Aside0.mk e_X
  clear e_X
  have HY := Aside0.mk e_Y
  clear e_Y
  unfold sv
  have HB := Aside0.mk (Below.refl w.heap.size w)
  go_enter Try.func4, Try.ntmps4
  go_wp2_with fail
  refine (lives_any _).mono ?_
  rintro e w1 ⟨rfl, hb1⟩
  have s1_0 : IsB w1 (w.heap.size) 23 a b c d := IsB.below (by repeat (first | ((refine isB_at _ _ _ _ _ ?_); (simp; done)) | apply IsB.alloc)) hb1
  have cs1_0_0 := blk_cell s1_0 0
  have cs1_0_1 := blk_cell s1_0 1
  have cs1_0_2 := blk_cell s1_0 2
  have cs1_0_3 := blk_cell s1_0 3
  simp only [List.getElem?_toArray, List.getElem?_cons_zero, List.getElem?_cons_succ] at cs1_0_0 cs1_0_1 cs1_0_2 cs1_0_3
  have ls1_0 := blk_lt s1_0
  have Hs1_0 := Aside0.mk s1_0; clear s1_0
  have n0 := Aside0.mk (below_step (by repeat (first | (with_reducible first | exact HB.out | apply below_alloc | apply pw_below_drewN) | refine below_set ?_ (by omega))) hb1)
  clear HB hb1
  have HB := n0; clear n0
  go_wp2_with fail
  refine (good_any ⟨a, b, c, d⟩ _).mono ?_
  rintro e w2 ⟨rfl, hb2⟩
  have s2_0 : IsB w2 (w.heap.size) 23 a b c d := IsB.below (by repeat (with_reducible first | exact Hs1_0.out | apply IsB.alloc | apply IsB.drewN)) hb2
  have cs2_0_0 := blk_cell s2_0 0
  have cs2_0_1 := blk_cell s2_0 1
  have cs2_0_2 := blk_cell s2_0 2
  have cs2_0_3 := blk_cell s2_0 3
  simp only [List.getElem?_toArray, List.getElem?_cons_zero, List.getElem?_cons_succ] at cs2_0_0 cs2_0_1 cs2_0_2 cs2_0_3
  have ls2_0 := blk_lt s2_0
  have Hs2_0 := Aside0.mk s2_0; clear s2_0
  clear ls1_0 cs1_0_0 cs1_0_1 cs1_0_2 cs1_0_3
  have n0 := Aside0.mk (below_step (by repeat (first | (with_reducible first | exact HB.out | apply below_alloc | apply pw_below_drewN) | refine below_set ?_ (by omega))) hb2)
  clear HB hb2
  have HB := n0; clear n0
  rw [HX.out]
  dsimp only [sv]
  go_wp2_with fail
  refine (go_any ⟨x0, x1, x2, x3⟩ _).mono ?_
  rintro e w3 ⟨rfl, hb3⟩
  have s3_0 : IsB w3 (w.heap.size) 23 a b c d := IsB.below (by repeat (with_reducible first | exact Hs2_0.out | apply IsB.alloc | apply IsB.drewN)) hb3
  have cs3_0_0 := blk_cell s3_0 0
  have cs3_0_1 := blk_cell s3_0 1
  have cs3_0_2 := blk_cell s3_0 2
  have cs3_0_3 := blk_cell s3_0 3
  simp only [List.getElem?_toArray, List.getElem?_cons_zero, List.getElem?_cons_succ] at cs3_0_0 cs3_0_1 cs3_0_2 cs3_0_3
  have ls3_0 := blk_lt s3_0
  have Hs3_0 := Aside0.mk s3_0; clear s3_0
  clear ls2_0 cs2_0_0 cs2_0_1 cs2_0_2 cs2_0_3
  have s3_1 : IsB w3 (w2.heap.size) 25 x0 x1 x2 x3 := IsB.below (by repeat (first | ((refine isB_at _ _ _ _ _ ?_); (simp; done)) | apply IsB.alloc)) hb3
  have cs3_1_0 := blk_cell s3_1 0
  have cs3_1_1 := blk_cell s3_1 1
  have cs3_1_2 := blk_cell s3_1 2
  have cs3_1_3 := blk_cell s3_1 3
  simp only [List.getElem?_toArray, List.getElem?_cons_zero, List.getElem?_cons_succ] at cs3_1_0 cs3_1_1 cs3_1_2 cs3_1_3
  have ls3_1 := blk_lt s3_1
  have Hs3_1 := Aside0.mk s3_1; clear s3_1
  have n0 := Aside0.mk (below_step (by repeat (first | (with_reducible first | exact HB.out | apply below_alloc | apply pw_below_drewN) | refine below_set ?_ (by omega))) hb3)
  clear HB hb3
  have HB := n0; clear n0
  rw [HY.out]
  dsimp only [sv]
  go_wp2
  go_ret
  exact ⟨rfl, by repeat (first | (with_reducible first | exact HB.out | apply below_alloc | apply pw_below_drewN) | refine below_set ?_ (by omega))⟩

set_option maxHeartbeats 4000000 in
theorem ready (a b c d x0 x1 x2 x3 : Int) (w : World) (e_X : good ⟨a, b, c, d⟩ = ⟨x0, x1, x2, x3⟩) (e_Y : goes ⟨x0, x1, x2, x3⟩ = (⟨x0, x1, x2, x3⟩, false)) (h1 : (x0 == 3) = false) (h3 : (x0 != 0) = true) (h4 : (x0 != 4) = true) (h5 : (x1 != x2) = true) (h2 : (x0 == 1) = false) : Calls Try.prog 4 #[sv ⟨a, b, c, d⟩] w fun e w' => e = .returned (.bool true) ∧ Below w.heap.size w w' := by
  have HX := Aside0.mk e_X
  clear e_X
  have HY := Aside0.mk e_Y
  clear e_Y
  unfold sv
  have HB := Aside0.mk (Below.refl w.heap.size w)
  go_enter Try.func4, Try.ntmps4
  go_wp2_with fail
  refine (lives_any _).mono ?_
  rintro e w1 ⟨rfl, hb1⟩
  have s1_0 : IsB w1 (w.heap.size) 23 a b c d := IsB.below (by repeat (first | ((refine isB_at _ _ _ _ _ ?_); (simp; done)) | apply IsB.alloc)) hb1
  have cs1_0_0 := blk_cell s1_0 0
  have cs1_0_1 := blk_cell s1_0 1
  have cs1_0_2 := blk_cell s1_0 2
  have cs1_0_3 := blk_cell s1_0 3
  simp only [List.getElem?_toArray, List.getElem?_cons_zero, List.getElem?_cons_succ] at cs1_0_0 cs1_0_1 cs1_0_2 cs1_0_3
  have ls1_0 := blk_lt s1_0
  have Hs1_0 := Aside0.mk s1_0; clear s1_0
  have n0 := Aside0.mk (below_step (by repeat (first | (with_reducible first | exact HB.out | apply below_alloc | apply pw_below_drewN) | refine below_set ?_ (by omega))) hb1)
  clear HB hb1
  have HB := n0; clear n0
  go_wp2_with fail
  refine (good_any ⟨a, b, c, d⟩ _).mono ?_
  rintro e w2 ⟨rfl, hb2⟩
  have s2_0 : IsB w2 (w.heap.size) 23 a b c d := IsB.below (by repeat (with_reducible first | exact Hs1_0.out | apply IsB.alloc | apply IsB.drewN)) hb2
  have cs2_0_0 := blk_cell s2_0 0
  have cs2_0_1 := blk_cell s2_0 1
  have cs2_0_2 := blk_cell s2_0 2
  have cs2_0_3 := blk_cell s2_0 3
  simp only [List.getElem?_toArray, List.getElem?_cons_zero, List.getElem?_cons_succ] at cs2_0_0 cs2_0_1 cs2_0_2 cs2_0_3
  have ls2_0 := blk_lt s2_0
  have Hs2_0 := Aside0.mk s2_0; clear s2_0
  clear ls1_0 cs1_0_0 cs1_0_1 cs1_0_2 cs1_0_3
  have n0 := Aside0.mk (below_step (by repeat (first | (with_reducible first | exact HB.out | apply below_alloc | apply pw_below_drewN) | refine below_set ?_ (by omega))) hb2)
  clear HB hb2
  have HB := n0; clear n0
  rw [HX.out]
  dsimp only [sv]
  go_wp2_with fail
  refine (go_any ⟨x0, x1, x2, x3⟩ _).mono ?_
  rintro e w3 ⟨rfl, hb3⟩
  have s3_0 : IsB w3 (w.heap.size) 23 a b c d := IsB.below (by repeat (with_reducible first | exact Hs2_0.out | apply IsB.alloc | apply IsB.drewN)) hb3
  have cs3_0_0 := blk_cell s3_0 0
  have cs3_0_1 := blk_cell s3_0 1
  have cs3_0_2 := blk_cell s3_0 2
  have cs3_0_3 := blk_cell s3_0 3
  simp only [List.getElem?_toArray, List.getElem?_cons_zero, List.getElem?_cons_succ] at cs3_0_0 cs3_0_1 cs3_0_2 cs3_0_3
  have ls3_0 := blk_lt s3_0
  have Hs3_0 := Aside0.mk s3_0; clear s3_0
  clear ls2_0 cs2_0_0 cs2_0_1 cs2_0_2 cs2_0_3
  have s3_1 : IsB w3 (w2.heap.size) 25 x0 x1 x2 x3 := IsB.below (by repeat (first | ((refine isB_at _ _ _ _ _ ?_); (simp; done)) | apply IsB.alloc)) hb3
  have cs3_1_0 := blk_cell s3_1 0
  have cs3_1_1 := blk_cell s3_1 1
  have cs3_1_2 := blk_cell s3_1 2
  have cs3_1_3 := blk_cell s3_1 3
  simp only [List.getElem?_toArray, List.getElem?_cons_zero, List.getElem?_cons_succ] at cs3_1_0 cs3_1_1 cs3_1_2 cs3_1_3
  have ls3_1 := blk_lt s3_1
  have Hs3_1 := Aside0.mk s3_1; clear s3_1
  have n0 := Aside0.mk (below_step (by repeat (first | (with_reducible first | exact HB.out | apply below_alloc | apply pw_below_drewN) | refine below_set ?_ (by omega))) hb3)
  clear HB hb3
  have HB := n0; clear n0
  rw [HY.out]
  dsimp only [sv]
  go_wp2
  go_ret
  exact ⟨rfl, by repeat (first | (with_reducible first | exact HB.out | apply below_alloc | apply pw_below_drewN) | refine below_set ?_ (by omega))⟩

set_option maxHeartbeats 4000000 in
theorem off (a b c d x0 x1 x2 x3 : Int) (w : World) (e_X : good ⟨a, b, c, d⟩ = ⟨x0, x1, x2, x3⟩) (hok : ok ⟨x0, x1, x2, x3⟩) (h1 : (x0 == 3) = false) (h3 : (x0 != 0) = false) : Calls Try.prog 4 #[sv ⟨a, b, c, d⟩] w fun e w' => e = .returned (.bool true) ∧ Below w.heap.size w w' := by
  have HX := Aside0.mk e_X
  clear e_X
  have HOK := Aside0.mk hok
  clear hok
  unfold sv
  have HB := Aside0.mk (Below.refl w.heap.size w)
  go_enter Try.func4, Try.ntmps4
  go_wp2_with fail
  refine (lives_any _).mono ?_
  rintro e w1 ⟨rfl, hb1⟩
  have s1_0 : IsB w1 (w.heap.size) 23 a b c d := IsB.below (by repeat (first | ((refine isB_at _ _ _ _ _ ?_); (simp; done)) | apply IsB.alloc)) hb1
  have cs1_0_0 := blk_cell s1_0 0
  have cs1_0_1 := blk_cell s1_0 1
  have cs1_0_2 := blk_cell s1_0 2
  have cs1_0_3 := blk_cell s1_0 3
  simp only [List.getElem?_toArray, List.getElem?_cons_zero, List.getElem?_cons_succ] at cs1_0_0 cs1_0_1 cs1_0_2 cs1_0_3
  have ls1_0 := blk_lt s1_0
  have Hs1_0 := Aside0.mk s1_0; clear s1_0
  have n0 := Aside0.mk (below_step (by repeat (first | (with_reducible first | exact HB.out | apply below_alloc | apply pw_below_drewN) | refine below_set ?_ (by omega))) hb1)
  clear HB hb1
  have HB := n0; clear n0
  go_wp2_with fail
  refine (good_any ⟨a, b, c, d⟩ _).mono ?_
  rintro e w2 ⟨rfl, hb2⟩
  have s2_0 : IsB w2 (w.heap.size) 23 a b c d := IsB.below (by repeat (with_reducible first | exact Hs1_0.out | apply IsB.alloc | apply IsB.drewN)) hb2
  have cs2_0_0 := blk_cell s2_0 0
  have cs2_0_1 := blk_cell s2_0 1
  have cs2_0_2 := blk_cell s2_0 2
  have cs2_0_3 := blk_cell s2_0 3
  simp only [List.getElem?_toArray, List.getElem?_cons_zero, List.getElem?_cons_succ] at cs2_0_0 cs2_0_1 cs2_0_2 cs2_0_3
  have ls2_0 := blk_lt s2_0
  have Hs2_0 := Aside0.mk s2_0; clear s2_0
  clear ls1_0 cs1_0_0 cs1_0_1 cs1_0_2 cs1_0_3
  have n0 := Aside0.mk (below_step (by repeat (first | (with_reducible first | exact HB.out | apply below_alloc | apply pw_below_drewN) | refine below_set ?_ (by omega))) hb2)
  clear HB hb2
  have HB := n0; clear n0
  rw [HX.out]
  dsimp only [sv]
  go_wp2
  have HW : IsB (w2.alloc (.cells #[.int .i64 x0, .int .i64 x1, .int .i64 x2, .int .i64 x3] 25)) w2.heap.size 25 x0 x1 x2 x3 := isB_at _ _ _ _ _ rfl
  have HWS := Aside0.mk HW
  have hw2 := below_size HB.out
  clear HW
  go_loopw [6] (fun i wr => ∃ (k : Nat) (s : Sl), i = .int .i64 k ∧ k ≤ 4 ∧ IsB wr w2.heap.size 25 s.st s.ver s.want s.seq ∧ Aside0 (ok s) ∧ Aside0 (far s + k ≤ 3 ∨ far s = 0) ∧ Aside0 (Below w.heap.size w wr)) (fun i _ => 4 - (intOf i).toNat)
  case atStart => exact ⟨0, ⟨x0, x1, x2, x3⟩, rfl, by omega, HWS.out, HOK, ⟨by unfold far; (repeat' split) <;> simp⟩, ⟨by repeat (with_reducible first | exact HB.out | apply below_alloc)⟩⟩
  case round =>
    obtain ⟨k, ⟨s0, s1, s2, s3⟩, rfl, hk, hS, HO, HF, HB⟩ := hrel
    dsimp only at hS
    have cr_0 := blk_cell hS 0
    have zr_0 := blk_frozen hS 0
    have cr_1 := blk_cell hS 1
    have zr_1 := blk_frozen hS 1
    have cr_2 := blk_cell hS 2
    have zr_2 := blk_frozen hS 2
    have cr_3 := blk_cell hS 3
    have zr_3 := blk_frozen hS 3
    have lr := blk_lt hS
    simp only [List.getElem?_toArray, List.getElem?_cons_zero, List.getElem?_cons_succ] at cr_0 cr_1 cr_2 cr_3
    have Hr := Aside0.mk hS
    clear hS
    by_cases hlt : k < 4
    · obtain ⟨⟨⟨t0, t1, t2, t3⟩, z⟩, hg⟩ : ∃ y, goes ⟨s0, s1, s2, s3⟩ = y := ⟨_, rfl⟩
      obtain ⟨m, hm⟩ : ∃ m, settled ⟨s0, s1, s2, s3⟩ = m := ⟨_, rfl⟩
      have hst := ok_step _ HO.out
      rw [hg, hm] at hst
      dsimp only at hst
      obtain ⟨hz, hok', hfar, _⟩ := hst
      have HG := Aside0.mk hg
      have HT := Aside0.mk hm
      have HO' := Aside0.mk hok'
      have HF' := Aside0.mk hfar
      clear hg hm hok' hfar
      subst hz
      cases m
      all_goals
        simp only [Bool.not_true, Bool.not_false] at *
        go_wp2_with fail
        refine (go_any ⟨s0, s1, s2, s3⟩ _).mono ?_
        rintro e u1 ⟨rfl, hb1⟩
        have s1_0 : IsB u1 (w2.heap.size) 25 s0 s1 s2 s3 := IsB.below (by repeat (with_reducible first | exact Hr.out | apply IsB.alloc | apply IsB.drewN)) hb1
        have cs1_0_0 := blk_cell s1_0 0
        have cs1_0_1 := blk_cell s1_0 1
        have cs1_0_2 := blk_cell s1_0 2
        have cs1_0_3 := blk_cell s1_0 3
        have zs1_0_0 := blk_frozen s1_0 0
        have zs1_0_1 := blk_frozen s1_0 1
        have zs1_0_2 := blk_frozen s1_0 2
        have zs1_0_3 := blk_frozen s1_0 3
        simp only [List.getElem?_toArray, List.getElem?_cons_zero, List.getElem?_cons_succ] at cs1_0_0 cs1_0_1 cs1_0_2 cs1_0_3
        have ls1_0 := blk_lt s1_0
        have Hs1_0 := Aside0.mk s1_0; clear s1_0
        clear lr cr_0 cr_1 cr_2 cr_3 zr_0 zr_1 zr_2 zr_3
        have n0 := Aside0.mk (below_step (by repeat (first | (with_reducible first | exact HB.out | apply below_alloc | apply pw_below_drewN) | refine below_set ?_ (by omega))) hb1)
        clear hb1
        have HB := n0; clear n0
        rw [HG.out]
        dsimp only [sv]
        go_wp2_with fail
        refine (settled_any ⟨s0, s1, s2, s3⟩ _).mono ?_
        rintro e u2 ⟨rfl, hb2⟩
        have s2_0 : IsB u2 (w2.heap.size) 25 s0 s1 s2 s3 := IsB.below (by repeat (with_reducible first | exact Hs1_0.out | apply IsB.alloc | apply IsB.drewN)) hb2
        have cs2_0_0 := blk_cell s2_0 0
        have cs2_0_1 := blk_cell s2_0 1
        have cs2_0_2 := blk_cell s2_0 2
        have cs2_0_3 := blk_cell s2_0 3
        have zs2_0_0 := blk_frozen s2_0 0
        have zs2_0_1 := blk_frozen s2_0 1
        have zs2_0_2 := blk_frozen s2_0 2
        have zs2_0_3 := blk_frozen s2_0 3
        simp only [List.getElem?_toArray, List.getElem?_cons_zero, List.getElem?_cons_succ] at cs2_0_0 cs2_0_1 cs2_0_2 cs2_0_3
        have ls2_0 := blk_lt s2_0
        have Hs2_0 := Aside0.mk s2_0; clear s2_0
        clear ls1_0 cs1_0_0 cs1_0_1 cs1_0_2 cs1_0_3 zs1_0_0 zs1_0_1 zs1_0_2 zs1_0_3
        have s2_1 : IsB u2 (u1.heap.size) 25 t0 t1 t2 t3 := IsB.below (by repeat (first | ((refine isB_at _ _ _ _ _ ?_); (simp; done)) | apply IsB.alloc)) hb2
        have cs2_1_0 := blk_cell s2_1 0
        have cs2_1_1 := blk_cell s2_1 1
        have cs2_1_2 := blk_cell s2_1 2
        have cs2_1_3 := blk_cell s2_1 3
        have zs2_1_0 := blk_frozen s2_1 0
        have zs2_1_1 := blk_frozen s2_1 1
        have zs2_1_2 := blk_frozen s2_1 2
        have zs2_1_3 := blk_frozen s2_1 3
        simp only [List.getElem?_toArray, List.getElem?_cons_zero, List.getElem?_cons_succ] at cs2_1_0 cs2_1_1 cs2_1_2 cs2_1_3
        have ls2_1 := blk_lt s2_1
        have Hs2_1 := Aside0.mk s2_1; clear s2_1
        have n0 := Aside0.mk (below_step (by repeat (first | (with_reducible first | exact HB.out | apply below_alloc | apply pw_below_drewN) | refine below_set ?_ (by omega))) hb2)
        clear HB hb2
        have HB := n0; clear n0
        rw [HT.out]
        go_wp2
        go_roundw
        case rel => exact ⟨k + 1, ⟨t0, t1, t2, t3⟩, by go_num, by omega, isB_set4 Hs2_0.out _ _ _ _, HO', ⟨by have h1 := HF.out; have h2 := HF'.out; omega⟩, ⟨by repeat (first | (with_reducible first | exact HB.out | apply below_alloc) | refine below_set ?_ (by omega))⟩⟩
        case measure => simp [intOf]; omega
    · have hk4 : k = 4 := by omega
      subst hk4
      have hst := ok_step _ HO.out
      have hf0 : far ⟨s0, s1, s2, s3⟩ = 0 := by have := HF.out; omega
      have hset := hst.2.2.2.1 hf0
      have hgo : goes ⟨s0, s1, s2, s3⟩ = (⟨s0, s1, s2, s3⟩, false) := by
        have h1 := hst.1
        have h2 := hst.2.2.1
        rw [hset] at h1
        rw [hf0] at h2
        exact Prod.ext (h2.resolve_left (by omega)).2.2 h1
      have HG := Aside0.mk hgo
      have HT := Aside0.mk hset
      clear hst hf0 hset hgo hlt hk
      go_wp2_with fail
      refine (go_any ⟨s0, s1, s2, s3⟩ _).mono ?_
      rintro e u1 ⟨rfl, hb1⟩
      have s1_0 : IsB u1 (w2.heap.size) 25 s0 s1 s2 s3 := IsB.below (by repeat (with_reducible first | exact Hr.out | apply IsB.alloc | apply IsB.drewN)) hb1
      have cs1_0_0 := blk_cell s1_0 0
      have cs1_0_1 := blk_cell s1_0 1
      have cs1_0_2 := blk_cell s1_0 2
      have cs1_0_3 := blk_cell s1_0 3
      have zs1_0_0 := blk_frozen s1_0 0
      have zs1_0_1 := blk_frozen s1_0 1
      have zs1_0_2 := blk_frozen s1_0 2
      have zs1_0_3 := blk_frozen s1_0 3
      simp only [List.getElem?_toArray, List.getElem?_cons_zero, List.getElem?_cons_succ] at cs1_0_0 cs1_0_1 cs1_0_2 cs1_0_3
      have ls1_0 := blk_lt s1_0
      have Hs1_0 := Aside0.mk s1_0; clear s1_0
      clear lr cr_0 cr_1 cr_2 cr_3 zr_0 zr_1 zr_2 zr_3
      have n0 := Aside0.mk (below_step (by repeat (first | (with_reducible first | exact HB.out | apply below_alloc | apply pw_below_drewN) | refine below_set ?_ (by omega))) hb1)
      clear hb1
      have HB := n0; clear n0
      rw [HG.out]
      dsimp only [sv]
      go_wp2_with fail
      refine (settled_any ⟨s0, s1, s2, s3⟩ _).mono ?_
      rintro e u2 ⟨rfl, hb2⟩
      have s2_0 : IsB u2 (w2.heap.size) 25 s0 s1 s2 s3 := IsB.below (by repeat (with_reducible first | exact Hs1_0.out | apply IsB.alloc | apply IsB.drewN)) hb2
      have cs2_0_0 := blk_cell s2_0 0
      have cs2_0_1 := blk_cell s2_0 1
      have cs2_0_2 := blk_cell s2_0 2
      have cs2_0_3 := blk_cell s2_0 3
      have zs2_0_0 := blk_frozen s2_0 0
      have zs2_0_1 := blk_frozen s2_0 1
      have zs2_0_2 := blk_frozen s2_0 2
      have zs2_0_3 := blk_frozen s2_0 3
      simp only [List.getElem?_toArray, List.getElem?_cons_zero, List.getElem?_cons_succ] at cs2_0_0 cs2_0_1 cs2_0_2 cs2_0_3
      have ls2_0 := blk_lt s2_0
      have Hs2_0 := Aside0.mk s2_0; clear s2_0
      clear ls1_0 cs1_0_0 cs1_0_1 cs1_0_2 cs1_0_3 zs1_0_0 zs1_0_1 zs1_0_2 zs1_0_3
      have s2_1 : IsB u2 (u1.heap.size) 25 s0 s1 s2 s3 := IsB.below (by repeat (first | ((refine isB_at _ _ _ _ _ ?_); (simp; done)) | apply IsB.alloc)) hb2
      have cs2_1_0 := blk_cell s2_1 0
      have cs2_1_1 := blk_cell s2_1 1
      have cs2_1_2 := blk_cell s2_1 2
      have cs2_1_3 := blk_cell s2_1 3
      have zs2_1_0 := blk_frozen s2_1 0
      have zs2_1_1 := blk_frozen s2_1 1
      have zs2_1_2 := blk_frozen s2_1 2
      have zs2_1_3 := blk_frozen s2_1 3
      simp only [List.getElem?_toArray, List.getElem?_cons_zero, List.getElem?_cons_succ] at cs2_1_0 cs2_1_1 cs2_1_2 cs2_1_3
      have ls2_1 := blk_lt s2_1
      have Hs2_1 := Aside0.mk s2_1; clear s2_1
      have n0 := Aside0.mk (below_step (by repeat (first | (with_reducible first | exact HB.out | apply below_alloc | apply pw_below_drewN) | refine below_set ?_ (by omega))) hb2)
      clear HB hb2
      have HB := n0; clear n0
      rw [HT.out]
      go_wp2
      go_ret
      exact ⟨rfl, by repeat (first | (with_reducible first | exact HB.out | apply below_alloc) | refine below_set ?_ (by omega))⟩

set_option maxHeartbeats 4000000 in
theorem stopping (a b c d x0 x1 x2 x3 : Int) (w : World) (e_X : good ⟨a, b, c, d⟩ = ⟨x0, x1, x2, x3⟩) (hok : ok ⟨x0, x1, x2, x3⟩) (h1 : (x0 == 3) = false) (h3 : (x0 != 0) = true) (h4 : (x0 != 4) = false) : Calls Try.prog 4 #[sv ⟨a, b, c, d⟩] w fun e w' => e = .returned (.bool true) ∧ Below w.heap.size w w' := by
  have HX := Aside0.mk e_X
  clear e_X
  have HOK := Aside0.mk hok
  clear hok
  unfold sv
  have HB := Aside0.mk (Below.refl w.heap.size w)
  go_enter Try.func4, Try.ntmps4
  go_wp2_with fail
  refine (lives_any _).mono ?_
  rintro e w1 ⟨rfl, hb1⟩
  have s1_0 : IsB w1 (w.heap.size) 23 a b c d := IsB.below (by repeat (first | ((refine isB_at _ _ _ _ _ ?_); (simp; done)) | apply IsB.alloc)) hb1
  have cs1_0_0 := blk_cell s1_0 0
  have cs1_0_1 := blk_cell s1_0 1
  have cs1_0_2 := blk_cell s1_0 2
  have cs1_0_3 := blk_cell s1_0 3
  simp only [List.getElem?_toArray, List.getElem?_cons_zero, List.getElem?_cons_succ] at cs1_0_0 cs1_0_1 cs1_0_2 cs1_0_3
  have ls1_0 := blk_lt s1_0
  have Hs1_0 := Aside0.mk s1_0; clear s1_0
  have n0 := Aside0.mk (below_step (by repeat (first | (with_reducible first | exact HB.out | apply below_alloc | apply pw_below_drewN) | refine below_set ?_ (by omega))) hb1)
  clear HB hb1
  have HB := n0; clear n0
  go_wp2_with fail
  refine (good_any ⟨a, b, c, d⟩ _).mono ?_
  rintro e w2 ⟨rfl, hb2⟩
  have s2_0 : IsB w2 (w.heap.size) 23 a b c d := IsB.below (by repeat (with_reducible first | exact Hs1_0.out | apply IsB.alloc | apply IsB.drewN)) hb2
  have cs2_0_0 := blk_cell s2_0 0
  have cs2_0_1 := blk_cell s2_0 1
  have cs2_0_2 := blk_cell s2_0 2
  have cs2_0_3 := blk_cell s2_0 3
  simp only [List.getElem?_toArray, List.getElem?_cons_zero, List.getElem?_cons_succ] at cs2_0_0 cs2_0_1 cs2_0_2 cs2_0_3
  have ls2_0 := blk_lt s2_0
  have Hs2_0 := Aside0.mk s2_0; clear s2_0
  clear ls1_0 cs1_0_0 cs1_0_1 cs1_0_2 cs1_0_3
  have n0 := Aside0.mk (below_step (by repeat (first | (with_reducible first | exact HB.out | apply below_alloc | apply pw_below_drewN) | refine below_set ?_ (by omega))) hb2)
  clear HB hb2
  have HB := n0; clear n0
  rw [HX.out]
  dsimp only [sv]
  go_wp2
  have HW : IsB (w2.alloc (.cells #[.int .i64 x0, .int .i64 x1, .int .i64 x2, .int .i64 x3] 25)) w2.heap.size 25 x0 x1 x2 x3 := isB_at _ _ _ _ _ rfl
  have HWS := Aside0.mk HW
  have hw2 := below_size HB.out
  clear HW
  go_loopw [6] (fun i wr => ∃ (k : Nat) (s : Sl), i = .int .i64 k ∧ k ≤ 4 ∧ IsB wr w2.heap.size 25 s.st s.ver s.want s.seq ∧ Aside0 (ok s) ∧ Aside0 (far s + k ≤ 3 ∨ far s = 0) ∧ Aside0 (Below w.heap.size w wr)) (fun i _ => 4 - (intOf i).toNat)
  case atStart => exact ⟨0, ⟨x0, x1, x2, x3⟩, rfl, by omega, HWS.out, HOK, ⟨by unfold far; (repeat' split) <;> simp⟩, ⟨by repeat (with_reducible first | exact HB.out | apply below_alloc)⟩⟩
  case round =>
    obtain ⟨k, ⟨s0, s1, s2, s3⟩, rfl, hk, hS, HO, HF, HB⟩ := hrel
    dsimp only at hS
    have cr_0 := blk_cell hS 0
    have zr_0 := blk_frozen hS 0
    have cr_1 := blk_cell hS 1
    have zr_1 := blk_frozen hS 1
    have cr_2 := blk_cell hS 2
    have zr_2 := blk_frozen hS 2
    have cr_3 := blk_cell hS 3
    have zr_3 := blk_frozen hS 3
    have lr := blk_lt hS
    simp only [List.getElem?_toArray, List.getElem?_cons_zero, List.getElem?_cons_succ] at cr_0 cr_1 cr_2 cr_3
    have Hr := Aside0.mk hS
    clear hS
    by_cases hlt : k < 4
    · obtain ⟨⟨⟨t0, t1, t2, t3⟩, z⟩, hg⟩ : ∃ y, goes ⟨s0, s1, s2, s3⟩ = y := ⟨_, rfl⟩
      obtain ⟨m, hm⟩ : ∃ m, settled ⟨s0, s1, s2, s3⟩ = m := ⟨_, rfl⟩
      have hst := ok_step _ HO.out
      rw [hg, hm] at hst
      dsimp only at hst
      obtain ⟨hz, hok', hfar, _⟩ := hst
      have HG := Aside0.mk hg
      have HT := Aside0.mk hm
      have HO' := Aside0.mk hok'
      have HF' := Aside0.mk hfar
      clear hg hm hok' hfar
      subst hz
      cases m
      all_goals
        simp only [Bool.not_true, Bool.not_false] at *
        go_wp2_with fail
        refine (go_any ⟨s0, s1, s2, s3⟩ _).mono ?_
        rintro e u1 ⟨rfl, hb1⟩
        have s1_0 : IsB u1 (w2.heap.size) 25 s0 s1 s2 s3 := IsB.below (by repeat (with_reducible first | exact Hr.out | apply IsB.alloc | apply IsB.drewN)) hb1
        have cs1_0_0 := blk_cell s1_0 0
        have cs1_0_1 := blk_cell s1_0 1
        have cs1_0_2 := blk_cell s1_0 2
        have cs1_0_3 := blk_cell s1_0 3
        have zs1_0_0 := blk_frozen s1_0 0
        have zs1_0_1 := blk_frozen s1_0 1
        have zs1_0_2 := blk_frozen s1_0 2
        have zs1_0_3 := blk_frozen s1_0 3
        simp only [List.getElem?_toArray, List.getElem?_cons_zero, List.getElem?_cons_succ] at cs1_0_0 cs1_0_1 cs1_0_2 cs1_0_3
        have ls1_0 := blk_lt s1_0
        have Hs1_0 := Aside0.mk s1_0; clear s1_0
        clear lr cr_0 cr_1 cr_2 cr_3 zr_0 zr_1 zr_2 zr_3
        have n0 := Aside0.mk (below_step (by repeat (first | (with_reducible first | exact HB.out | apply below_alloc | apply pw_below_drewN) | refine below_set ?_ (by omega))) hb1)
        clear hb1
        have HB := n0; clear n0
        rw [HG.out]
        dsimp only [sv]
        go_wp2_with fail
        refine (settled_any ⟨s0, s1, s2, s3⟩ _).mono ?_
        rintro e u2 ⟨rfl, hb2⟩
        have s2_0 : IsB u2 (w2.heap.size) 25 s0 s1 s2 s3 := IsB.below (by repeat (with_reducible first | exact Hs1_0.out | apply IsB.alloc | apply IsB.drewN)) hb2
        have cs2_0_0 := blk_cell s2_0 0
        have cs2_0_1 := blk_cell s2_0 1
        have cs2_0_2 := blk_cell s2_0 2
        have cs2_0_3 := blk_cell s2_0 3
        have zs2_0_0 := blk_frozen s2_0 0
        have zs2_0_1 := blk_frozen s2_0 1
        have zs2_0_2 := blk_frozen s2_0 2
        have zs2_0_3 := blk_frozen s2_0 3
        simp only [List.getElem?_toArray, List.getElem?_cons_zero, List.getElem?_cons_succ] at cs2_0_0 cs2_0_1 cs2_0_2 cs2_0_3
        have ls2_0 := blk_lt s2_0
        have Hs2_0 := Aside0.mk s2_0; clear s2_0
        clear ls1_0 cs1_0_0 cs1_0_1 cs1_0_2 cs1_0_3 zs1_0_0 zs1_0_1 zs1_0_2 zs1_0_3
        have s2_1 : IsB u2 (u1.heap.size) 25 t0 t1 t2 t3 := IsB.below (by repeat (first | ((refine isB_at _ _ _ _ _ ?_); (simp; done)) | apply IsB.alloc)) hb2
        have cs2_1_0 := blk_cell s2_1 0
        have cs2_1_1 := blk_cell s2_1 1
        have cs2_1_2 := blk_cell s2_1 2
        have cs2_1_3 := blk_cell s2_1 3
        have zs2_1_0 := blk_frozen s2_1 0
        have zs2_1_1 := blk_frozen s2_1 1
        have zs2_1_2 := blk_frozen s2_1 2
        have zs2_1_3 := blk_frozen s2_1 3
        simp only [List.getElem?_toArray, List.getElem?_cons_zero, List.getElem?_cons_succ] at cs2_1_0 cs2_1_1 cs2_1_2 cs2_1_3
        have ls2_1 := blk_lt s2_1
        have Hs2_1 := Aside0.mk s2_1; clear s2_1
        have n0 := Aside0.mk (below_step (by repeat (first | (with_reducible first | exact HB.out | apply below_alloc | apply pw_below_drewN) | refine below_set ?_ (by omega))) hb2)
        clear HB hb2
        have HB := n0; clear n0
        rw [HT.out]
        go_wp2
        go_roundw
        case rel => exact ⟨k + 1, ⟨t0, t1, t2, t3⟩, by go_num, by omega, isB_set4 Hs2_0.out _ _ _ _, HO', ⟨by have h1 := HF.out; have h2 := HF'.out; omega⟩, ⟨by repeat (first | (with_reducible first | exact HB.out | apply below_alloc) | refine below_set ?_ (by omega))⟩⟩
        case measure => simp [intOf]; omega
    · have hk4 : k = 4 := by omega
      subst hk4
      have hst := ok_step _ HO.out
      have hf0 : far ⟨s0, s1, s2, s3⟩ = 0 := by have := HF.out; omega
      have hset := hst.2.2.2.1 hf0
      have hgo : goes ⟨s0, s1, s2, s3⟩ = (⟨s0, s1, s2, s3⟩, false) := by
        have h1 := hst.1
        have h2 := hst.2.2.1
        rw [hset] at h1
        rw [hf0] at h2
        exact Prod.ext (h2.resolve_left (by omega)).2.2 h1
      have HG := Aside0.mk hgo
      have HT := Aside0.mk hset
      clear hst hf0 hset hgo hlt hk
      go_wp2_with fail
      refine (go_any ⟨s0, s1, s2, s3⟩ _).mono ?_
      rintro e u1 ⟨rfl, hb1⟩
      have s1_0 : IsB u1 (w2.heap.size) 25 s0 s1 s2 s3 := IsB.below (by repeat (with_reducible first | exact Hr.out | apply IsB.alloc | apply IsB.drewN)) hb1
      have cs1_0_0 := blk_cell s1_0 0
      have cs1_0_1 := blk_cell s1_0 1
      have cs1_0_2 := blk_cell s1_0 2
      have cs1_0_3 := blk_cell s1_0 3
      have zs1_0_0 := blk_frozen s1_0 0
      have zs1_0_1 := blk_frozen s1_0 1
      have zs1_0_2 := blk_frozen s1_0 2
      have zs1_0_3 := blk_frozen s1_0 3
      simp only [List.getElem?_toArray, List.getElem?_cons_zero, List.getElem?_cons_succ] at cs1_0_0 cs1_0_1 cs1_0_2 cs1_0_3
      have ls1_0 := blk_lt s1_0
      have Hs1_0 := Aside0.mk s1_0; clear s1_0
      clear lr cr_0 cr_1 cr_2 cr_3 zr_0 zr_1 zr_2 zr_3
      have n0 := Aside0.mk (below_step (by repeat (first | (with_reducible first | exact HB.out | apply below_alloc | apply pw_below_drewN) | refine below_set ?_ (by omega))) hb1)
      clear hb1
      have HB := n0; clear n0
      rw [HG.out]
      dsimp only [sv]
      go_wp2_with fail
      refine (settled_any ⟨s0, s1, s2, s3⟩ _).mono ?_
      rintro e u2 ⟨rfl, hb2⟩
      have s2_0 : IsB u2 (w2.heap.size) 25 s0 s1 s2 s3 := IsB.below (by repeat (with_reducible first | exact Hs1_0.out | apply IsB.alloc | apply IsB.drewN)) hb2
      have cs2_0_0 := blk_cell s2_0 0
      have cs2_0_1 := blk_cell s2_0 1
      have cs2_0_2 := blk_cell s2_0 2
      have cs2_0_3 := blk_cell s2_0 3
      have zs2_0_0 := blk_frozen s2_0 0
      have zs2_0_1 := blk_frozen s2_0 1
      have zs2_0_2 := blk_frozen s2_0 2
      have zs2_0_3 := blk_frozen s2_0 3
      simp only [List.getElem?_toArray, List.getElem?_cons_zero, List.getElem?_cons_succ] at cs2_0_0 cs2_0_1 cs2_0_2 cs2_0_3
      have ls2_0 := blk_lt s2_0
      have Hs2_0 := Aside0.mk s2_0; clear s2_0
      clear ls1_0 cs1_0_0 cs1_0_1 cs1_0_2 cs1_0_3 zs1_0_0 zs1_0_1 zs1_0_2 zs1_0_3
      have s2_1 : IsB u2 (u1.heap.size) 25 s0 s1 s2 s3 := IsB.below (by repeat (first | ((refine isB_at _ _ _ _ _ ?_); (simp; done)) | apply IsB.alloc)) hb2
      have cs2_1_0 := blk_cell s2_1 0
      have cs2_1_1 := blk_cell s2_1 1
      have cs2_1_2 := blk_cell s2_1 2
      have cs2_1_3 := blk_cell s2_1 3
      have zs2_1_0 := blk_frozen s2_1 0
      have zs2_1_1 := blk_frozen s2_1 1
      have zs2_1_2 := blk_frozen s2_1 2
      have zs2_1_3 := blk_frozen s2_1 3
      simp only [List.getElem?_toArray, List.getElem?_cons_zero, List.getElem?_cons_succ] at cs2_1_0 cs2_1_1 cs2_1_2 cs2_1_3
      have ls2_1 := blk_lt s2_1
      have Hs2_1 := Aside0.mk s2_1; clear s2_1
      have n0 := Aside0.mk (below_step (by repeat (first | (with_reducible first | exact HB.out | apply below_alloc | apply pw_below_drewN) | refine below_set ?_ (by omega))) hb2)
      clear HB hb2
      have HB := n0; clear n0
      rw [HT.out]
      go_wp2
      go_ret
      exact ⟨rfl, by repeat (first | (with_reducible first | exact HB.out | apply below_alloc) | refine below_set ?_ (by omega))⟩

set_option maxHeartbeats 4000000 in
theorem on (a b c d x0 x1 x2 x3 : Int) (w : World) (e_X : good ⟨a, b, c, d⟩ = ⟨x0, x1, x2, x3⟩) (hok : ok ⟨x0, x1, x2, x3⟩) (h1 : (x0 == 3) = false) (h3 : (x0 != 0) = true) (h4 : (x0 != 4) = true) (h5 : (x1 != x2) = false) : Calls Try.prog 4 #[sv ⟨a, b, c, d⟩] w fun e w' => e = .returned (.bool true) ∧ Below w.heap.size w w' := by
  have HX := Aside0.mk e_X
  clear e_X
  have HOK := Aside0.mk hok
  clear hok
  unfold sv
  have HB := Aside0.mk (Below.refl w.heap.size w)
  go_enter Try.func4, Try.ntmps4
  go_wp2_with fail
  refine (lives_any _).mono ?_
  rintro e w1 ⟨rfl, hb1⟩
  have s1_0 : IsB w1 (w.heap.size) 23 a b c d := IsB.below (by repeat (first | ((refine isB_at _ _ _ _ _ ?_); (simp; done)) | apply IsB.alloc)) hb1
  have cs1_0_0 := blk_cell s1_0 0
  have cs1_0_1 := blk_cell s1_0 1
  have cs1_0_2 := blk_cell s1_0 2
  have cs1_0_3 := blk_cell s1_0 3
  simp only [List.getElem?_toArray, List.getElem?_cons_zero, List.getElem?_cons_succ] at cs1_0_0 cs1_0_1 cs1_0_2 cs1_0_3
  have ls1_0 := blk_lt s1_0
  have Hs1_0 := Aside0.mk s1_0; clear s1_0
  have n0 := Aside0.mk (below_step (by repeat (first | (with_reducible first | exact HB.out | apply below_alloc | apply pw_below_drewN) | refine below_set ?_ (by omega))) hb1)
  clear HB hb1
  have HB := n0; clear n0
  go_wp2_with fail
  refine (good_any ⟨a, b, c, d⟩ _).mono ?_
  rintro e w2 ⟨rfl, hb2⟩
  have s2_0 : IsB w2 (w.heap.size) 23 a b c d := IsB.below (by repeat (with_reducible first | exact Hs1_0.out | apply IsB.alloc | apply IsB.drewN)) hb2
  have cs2_0_0 := blk_cell s2_0 0
  have cs2_0_1 := blk_cell s2_0 1
  have cs2_0_2 := blk_cell s2_0 2
  have cs2_0_3 := blk_cell s2_0 3
  simp only [List.getElem?_toArray, List.getElem?_cons_zero, List.getElem?_cons_succ] at cs2_0_0 cs2_0_1 cs2_0_2 cs2_0_3
  have ls2_0 := blk_lt s2_0
  have Hs2_0 := Aside0.mk s2_0; clear s2_0
  clear ls1_0 cs1_0_0 cs1_0_1 cs1_0_2 cs1_0_3
  have n0 := Aside0.mk (below_step (by repeat (first | (with_reducible first | exact HB.out | apply below_alloc | apply pw_below_drewN) | refine below_set ?_ (by omega))) hb2)
  clear HB hb2
  have HB := n0; clear n0
  rw [HX.out]
  dsimp only [sv]
  go_wp2
  have HW : IsB (w2.alloc (.cells #[.int .i64 x0, .int .i64 x1, .int .i64 x2, .int .i64 x3] 25)) w2.heap.size 25 x0 x1 x2 x3 := isB_at _ _ _ _ _ rfl
  have HWS := Aside0.mk HW
  have hw2 := below_size HB.out
  clear HW
  go_loopw [6] (fun i wr => ∃ (k : Nat) (s : Sl), i = .int .i64 k ∧ k ≤ 4 ∧ IsB wr w2.heap.size 25 s.st s.ver s.want s.seq ∧ Aside0 (ok s) ∧ Aside0 (far s + k ≤ 3 ∨ far s = 0) ∧ Aside0 (Below w.heap.size w wr)) (fun i _ => 4 - (intOf i).toNat)
  case atStart => exact ⟨0, ⟨x0, x1, x2, x3⟩, rfl, by omega, HWS.out, HOK, ⟨by unfold far; (repeat' split) <;> simp⟩, ⟨by repeat (with_reducible first | exact HB.out | apply below_alloc)⟩⟩
  case round =>
    obtain ⟨k, ⟨s0, s1, s2, s3⟩, rfl, hk, hS, HO, HF, HB⟩ := hrel
    dsimp only at hS
    have cr_0 := blk_cell hS 0
    have zr_0 := blk_frozen hS 0
    have cr_1 := blk_cell hS 1
    have zr_1 := blk_frozen hS 1
    have cr_2 := blk_cell hS 2
    have zr_2 := blk_frozen hS 2
    have cr_3 := blk_cell hS 3
    have zr_3 := blk_frozen hS 3
    have lr := blk_lt hS
    simp only [List.getElem?_toArray, List.getElem?_cons_zero, List.getElem?_cons_succ] at cr_0 cr_1 cr_2 cr_3
    have Hr := Aside0.mk hS
    clear hS
    by_cases hlt : k < 4
    · obtain ⟨⟨⟨t0, t1, t2, t3⟩, z⟩, hg⟩ : ∃ y, goes ⟨s0, s1, s2, s3⟩ = y := ⟨_, rfl⟩
      obtain ⟨m, hm⟩ : ∃ m, settled ⟨s0, s1, s2, s3⟩ = m := ⟨_, rfl⟩
      have hst := ok_step _ HO.out
      rw [hg, hm] at hst
      dsimp only at hst
      obtain ⟨hz, hok', hfar, _⟩ := hst
      have HG := Aside0.mk hg
      have HT := Aside0.mk hm
      have HO' := Aside0.mk hok'
      have HF' := Aside0.mk hfar
      clear hg hm hok' hfar
      subst hz
      cases m
      all_goals
        simp only [Bool.not_true, Bool.not_false] at *
        go_wp2_with fail
        refine (go_any ⟨s0, s1, s2, s3⟩ _).mono ?_
        rintro e u1 ⟨rfl, hb1⟩
        have s1_0 : IsB u1 (w2.heap.size) 25 s0 s1 s2 s3 := IsB.below (by repeat (with_reducible first | exact Hr.out | apply IsB.alloc | apply IsB.drewN)) hb1
        have cs1_0_0 := blk_cell s1_0 0
        have cs1_0_1 := blk_cell s1_0 1
        have cs1_0_2 := blk_cell s1_0 2
        have cs1_0_3 := blk_cell s1_0 3
        have zs1_0_0 := blk_frozen s1_0 0
        have zs1_0_1 := blk_frozen s1_0 1
        have zs1_0_2 := blk_frozen s1_0 2
        have zs1_0_3 := blk_frozen s1_0 3
        simp only [List.getElem?_toArray, List.getElem?_cons_zero, List.getElem?_cons_succ] at cs1_0_0 cs1_0_1 cs1_0_2 cs1_0_3
        have ls1_0 := blk_lt s1_0
        have Hs1_0 := Aside0.mk s1_0; clear s1_0
        clear lr cr_0 cr_1 cr_2 cr_3 zr_0 zr_1 zr_2 zr_3
        have n0 := Aside0.mk (below_step (by repeat (first | (with_reducible first | exact HB.out | apply below_alloc | apply pw_below_drewN) | refine below_set ?_ (by omega))) hb1)
        clear hb1
        have HB := n0; clear n0
        rw [HG.out]
        dsimp only [sv]
        go_wp2_with fail
        refine (settled_any ⟨s0, s1, s2, s3⟩ _).mono ?_
        rintro e u2 ⟨rfl, hb2⟩
        have s2_0 : IsB u2 (w2.heap.size) 25 s0 s1 s2 s3 := IsB.below (by repeat (with_reducible first | exact Hs1_0.out | apply IsB.alloc | apply IsB.drewN)) hb2
        have cs2_0_0 := blk_cell s2_0 0
        have cs2_0_1 := blk_cell s2_0 1
        have cs2_0_2 := blk_cell s2_0 2
        have cs2_0_3 := blk_cell s2_0 3
        have zs2_0_0 := blk_frozen s2_0 0
        have zs2_0_1 := blk_frozen s2_0 1
        have zs2_0_2 := blk_frozen s2_0 2
        have zs2_0_3 := blk_frozen s2_0 3
        simp only [List.getElem?_toArray, List.getElem?_cons_zero, List.getElem?_cons_succ] at cs2_0_0 cs2_0_1 cs2_0_2 cs2_0_3
        have ls2_0 := blk_lt s2_0
        have Hs2_0 := Aside0.mk s2_0; clear s2_0
        clear ls1_0 cs1_0_0 cs1_0_1 cs1_0_2 cs1_0_3 zs1_0_0 zs1_0_1 zs1_0_2 zs1_0_3
        have s2_1 : IsB u2 (u1.heap.size) 25 t0 t1 t2 t3 := IsB.below (by repeat (first | ((refine isB_at _ _ _ _ _ ?_); (simp; done)) | apply IsB.alloc)) hb2
        have cs2_1_0 := blk_cell s2_1 0
        have cs2_1_1 := blk_cell s2_1 1
        have cs2_1_2 := blk_cell s2_1 2
        have cs2_1_3 := blk_cell s2_1 3
        have zs2_1_0 := blk_frozen s2_1 0
        have zs2_1_1 := blk_frozen s2_1 1
        have zs2_1_2 := blk_frozen s2_1 2
        have zs2_1_3 := blk_frozen s2_1 3
        simp only [List.getElem?_toArray, List.getElem?_cons_zero, List.getElem?_cons_succ] at cs2_1_0 cs2_1_1 cs2_1_2 cs2_1_3
        have ls2_1 := blk_lt s2_1
        have Hs2_1 := Aside0.mk s2_1; clear s2_1
        have n0 := Aside0.mk (below_step (by repeat (first | (with_reducible first | exact HB.out | apply below_alloc | apply pw_below_drewN) | refine below_set ?_ (by omega))) hb2)
        clear HB hb2
        have HB := n0; clear n0
        rw [HT.out]
        go_wp2
        go_roundw
        case rel => exact ⟨k + 1, ⟨t0, t1, t2, t3⟩, by go_num, by omega, isB_set4 Hs2_0.out _ _ _ _, HO', ⟨by have h1 := HF.out; have h2 := HF'.out; omega⟩, ⟨by repeat (first | (with_reducible first | exact HB.out | apply below_alloc) | refine below_set ?_ (by omega))⟩⟩
        case measure => simp [intOf]; omega
    · have hk4 : k = 4 := by omega
      subst hk4
      have hst := ok_step _ HO.out
      have hf0 : far ⟨s0, s1, s2, s3⟩ = 0 := by have := HF.out; omega
      have hset := hst.2.2.2.1 hf0
      have hgo : goes ⟨s0, s1, s2, s3⟩ = (⟨s0, s1, s2, s3⟩, false) := by
        have h1 := hst.1
        have h2 := hst.2.2.1
        rw [hset] at h1
        rw [hf0] at h2
        exact Prod.ext (h2.resolve_left (by omega)).2.2 h1
      have HG := Aside0.mk hgo
      have HT := Aside0.mk hset
      clear hst hf0 hset hgo hlt hk
      go_wp2_with fail
      refine (go_any ⟨s0, s1, s2, s3⟩ _).mono ?_
      rintro e u1 ⟨rfl, hb1⟩
      have s1_0 : IsB u1 (w2.heap.size) 25 s0 s1 s2 s3 := IsB.below (by repeat (with_reducible first | exact Hr.out | apply IsB.alloc | apply IsB.drewN)) hb1
      have cs1_0_0 := blk_cell s1_0 0
      have cs1_0_1 := blk_cell s1_0 1
      have cs1_0_2 := blk_cell s1_0 2
      have cs1_0_3 := blk_cell s1_0 3
      have zs1_0_0 := blk_frozen s1_0 0
      have zs1_0_1 := blk_frozen s1_0 1
      have zs1_0_2 := blk_frozen s1_0 2
      have zs1_0_3 := blk_frozen s1_0 3
      simp only [List.getElem?_toArray, List.getElem?_cons_zero, List.getElem?_cons_succ] at cs1_0_0 cs1_0_1 cs1_0_2 cs1_0_3
      have ls1_0 := blk_lt s1_0
      have Hs1_0 := Aside0.mk s1_0; clear s1_0
      clear lr cr_0 cr_1 cr_2 cr_3 zr_0 zr_1 zr_2 zr_3
      have n0 := Aside0.mk (below_step (by repeat (first | (with_reducible first | exact HB.out | apply below_alloc | apply pw_below_drewN) | refine below_set ?_ (by omega))) hb1)
      clear hb1
      have HB := n0; clear n0
      rw [HG.out]
      dsimp only [sv]
      go_wp2_with fail
      refine (settled_any ⟨s0, s1, s2, s3⟩ _).mono ?_
      rintro e u2 ⟨rfl, hb2⟩
      have s2_0 : IsB u2 (w2.heap.size) 25 s0 s1 s2 s3 := IsB.below (by repeat (with_reducible first | exact Hs1_0.out | apply IsB.alloc | apply IsB.drewN)) hb2
      have cs2_0_0 := blk_cell s2_0 0
      have cs2_0_1 := blk_cell s2_0 1
      have cs2_0_2 := blk_cell s2_0 2
      have cs2_0_3 := blk_cell s2_0 3
      have zs2_0_0 := blk_frozen s2_0 0
      have zs2_0_1 := blk_frozen s2_0 1
      have zs2_0_2 := blk_frozen s2_0 2
      have zs2_0_3 := blk_frozen s2_0 3
      simp only [List.getElem?_toArray, List.getElem?_cons_zero, List.getElem?_cons_succ] at cs2_0_0 cs2_0_1 cs2_0_2 cs2_0_3
      have ls2_0 := blk_lt s2_0
      have Hs2_0 := Aside0.mk s2_0; clear s2_0
      clear ls1_0 cs1_0_0 cs1_0_1 cs1_0_2 cs1_0_3 zs1_0_0 zs1_0_1 zs1_0_2 zs1_0_3
      have s2_1 : IsB u2 (u1.heap.size) 25 s0 s1 s2 s3 := IsB.below (by repeat (first | ((refine isB_at _ _ _ _ _ ?_); (simp; done)) | apply IsB.alloc)) hb2
      have cs2_1_0 := blk_cell s2_1 0
      have cs2_1_1 := blk_cell s2_1 1
      have cs2_1_2 := blk_cell s2_1 2
      have cs2_1_3 := blk_cell s2_1 3
      have zs2_1_0 := blk_frozen s2_1 0
      have zs2_1_1 := blk_frozen s2_1 1
      have zs2_1_2 := blk_frozen s2_1 2
      have zs2_1_3 := blk_frozen s2_1 3
      simp only [List.getElem?_toArray, List.getElem?_cons_zero, List.getElem?_cons_succ] at cs2_1_0 cs2_1_1 cs2_1_2 cs2_1_3
      have ls2_1 := blk_lt s2_1
      have Hs2_1 := Aside0.mk s2_1; clear s2_1
      have n0 := Aside0.mk (below_step (by repeat (first | (with_reducible first | exact HB.out | apply below_alloc | apply pw_below_drewN) | refine below_set ?_ (by omega))) hb2)
      clear HB hb2
      have HB := n0; clear n0
      rw [HT.out]
      go_wp2
      go_ret
      exact ⟨rfl, by repeat (first | (with_reducible first | exact HB.out | apply below_alloc) | refine below_set ?_ (by omega))⟩

theorem walk (a b c d : Int) (w : World) : Calls Try.prog 4 #[sv ⟨a, b, c, d⟩] w fun e w' => e = .returned (.bool true) ∧ Below w.heap.size w w' := by
  obtain ⟨⟨x0, x1, x2, x3⟩, hx⟩ : ∃ x, good ⟨a, b, c, d⟩ = x := ⟨_, rfl⟩
  have hr : right ⟨x0, x1, x2, x3⟩ = true := by rw [← hx]; exact good_right _
  have hr' := hr
  unfold right at hr'
  simp only [decide_eq_true_eq] at hr'
  by_cases h0 : x0 = 0
  · exact off a b c d x0 x1 x2 x3 w hx ⟨hr, .inl h0⟩ (by simp [h0]) (by simp [h0])
  · by_cases h4 : x0 = 4
    · exact stopping a b c d x0 x1 x2 x3 w hx ⟨hr, .inr (.inl h4)⟩ (by simp [h4]) (by simp [h4]) (by simp [h4])
    · by_cases h3 : x0 = 3
      · exact hurt a b c d x0 x1 x2 x3 w hx (by unfold goes; rw [if_pos hr]; simp [h3]) (by simp [h3]) (by simp [h3])
      · by_cases he : x1 = x2
        · exact on a b c d x0 x1 x2 x3 w hx ⟨hr, .inr (.inr ⟨by dsimp only; omega, he⟩)⟩ (by simp [h3]) (by simp [h0]) (by simp [h4]) (by simp [he])
        · by_cases h1 : x0 = 1
          · exact start a b c d x0 x1 x2 x3 w hx (by unfold goes; rw [if_pos hr]; simp [h1]) (by simp [h3]) (by simp [h0]) (by simp [h4]) (by simp [he]) (by simp [h1])
          · exact ready a b c d x0 x1 x2 x3 w hx (by unfold goes; rw [if_pos hr]; simp [h0, h1, h4]) (by simp [h3]) (by simp [h0]) (by simp [h4]) (by simp [he]) (by simp [h1])
end Go.Proofs.Ytiegioncmpkpcaa.WalkSlotSettles
