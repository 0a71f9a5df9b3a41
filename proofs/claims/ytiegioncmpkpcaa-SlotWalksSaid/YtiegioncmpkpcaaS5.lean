/-
  Proved here: lives answers true. No condition.
-/
import Derived.Test.YtiegioncmpkpcaaS4
namespace Go.Proofs.Ytiegioncmpkpcaa.S5
open Go.RowKit Go.Proofs.Ytiegioncmpkpcaa.S0 Go.Proofs.Ytiegioncmpkpcaa.S1 Go.Proofs.Ytiegioncmpkpcaa.S2 Go.Proofs.Ytiegioncmpkpcaa.S3 Go.Proofs.Ytiegioncmpkpcaa.S4 Go.Proofs.YtiegioncmpkpcaaW.PrintWords Go.Proofs.YtiegioncmpkpcaaW.PrintLast Go.Proofs.YtiegioncmpkpcaaW.PrintMore
set_option linter.unusedVariables false
set_option linter.unusedSimpArgs false
/-- Block g is four whole numbers. -/
def IsB (w : World) (g : Nat) (t : TypeId) (a b c d : Int) : Prop := w.heap[g]? = some (.cells #[.int .i64 a, .int .i64 b, .int .i64 c, .int .i64 d] t (0, 0))
theorem IsB.below {W w1 : World} {g : Nat} {t : TypeId} {a b c d : Int} (h : IsB W g t a b c d) (hb : Below W.heap.size W w1) : IsB w1 g t a b c d := (hb.block g (blk_lt h)).trans h
theorem IsB.alloc {w : World} {g : Nat} {t : TypeId} {a b c d : Int} (h : IsB w g t a b c d) (o : Obj) : IsB (w.alloc o) g t a b c d := (Below.heap_alloc w o g (blk_lt h)).trans h
theorem IsB.drewN {w : World} {g : Nat} {t : TypeId} {a b c d : Int} (h : IsB w g t a b c d) (n : Nat) : IsB (w.drewN n) g t a b c d := h
theorem isB_set4 {w : World} {g : Nat} {t : TypeId} {a b c d : Int} (h : IsB w g t a b c d) (x0 x1 x2 x3 : Int) : IsB ((((w.setCell ⟨g, 0, none⟩ (.int .i64 x0)).setCell ⟨g, 1, none⟩ (.int .i64 x1)).setCell ⟨g, 2, none⟩ (.int .i64 x2)).setCell ⟨g, 3, none⟩ (.int .i64 x3)) g t x0 x1 x2 x3 :=
  blk_set (blk_set (blk_set (blk_set h 0 _) 1 _) 2 _) 3 _
theorem isB_at {W : World} {g : Nat} (t : TypeId) (a b c d : Int) (hg : g = W.heap.size) : IsB (W.alloc (.cells #[.int .i64 a, .int .i64 b, .int .i64 c, .int .i64 d] t)) g t a b c d := by
  subst hg; exact heap_alloc_new W _
set_option maxHeartbeats 4000000 in
theorem lives_any (w : World) : Calls Try.prog 7 #[] w fun e w' => e = .returned (.bool true) ∧ Below w.heap.size w w' := by
  have HB := Aside0.mk (Below.refl w.heap.size w)
  go_enter Try.func7, Try.ntmps7
  go_wp2_with fail
  refine (want_any ⟨0,0,0,0⟩ 3 1 _).mono ?_
  rintro e w1 ⟨rfl, hb1⟩
  have n0 := Aside0.mk (below_step (by repeat (first | (with_reducible first | exact HB.out | apply below_alloc | apply pw_below_drewN) | refine below_set ?_ (by omega))) hb1)
  clear HB hb1
  have HB := n0; clear n0
  rw [show wants ⟨0,0,0,0⟩ 3 1 = (⟨0,0,3,1⟩, true) from by decide]
  dsimp only [sv]
  go_wp2_with fail
  refine (go_any ⟨0,0,3,1⟩ _).mono ?_
  rintro e w2 ⟨rfl, hb2⟩
  have n0 := Aside0.mk (below_step (by repeat (first | (with_reducible first | exact HB.out | apply below_alloc | apply pw_below_drewN) | refine below_set ?_ (by omega))) hb2)
  clear HB hb2
  have HB := n0; clear n0
  rw [show goes ⟨0,0,3,1⟩ = (⟨1,3,3,1⟩, true) from by decide]
  dsimp only [sv]
  go_wp2_with fail
  refine (go_any ⟨1,3,3,1⟩ _).mono ?_
  rintro e w3 ⟨rfl, hb3⟩
  have s3_0 : IsB w3 (w2.heap.size) 25 1 3 3 1 := IsB.below (by repeat (first | ((refine isB_at _ _ _ _ _ ?_); (simp; done)) | apply IsB.alloc)) hb3
  have cs3_0_0 := blk_cell s3_0 0
  have cs3_0_1 := blk_cell s3_0 1
  have cs3_0_2 := blk_cell s3_0 2
  have cs3_0_3 := blk_cell s3_0 3
  simp only [List.getElem?_toArray, List.getElem?_cons_zero, List.getElem?_cons_succ] at cs3_0_0 cs3_0_1 cs3_0_2 cs3_0_3
  have ls3_0 := blk_lt s3_0
  have Hs3_0 := Aside0.mk s3_0; clear s3_0
  have n0 := Aside0.mk (below_step (by repeat (first | (with_reducible first | exact HB.out | apply below_alloc | apply pw_below_drewN) | refine below_set ?_ (by omega))) hb3)
  clear HB hb3
  have HB := n0; clear n0
  rw [show goes ⟨1,3,3,1⟩ = (⟨2,3,3,1⟩, true) from by decide]
  dsimp only [sv]
  go_wp2_with fail
  refine (want_any ⟨2,3,3,1⟩ 0 2 _).mono ?_
  rintro e w4 ⟨rfl, hb4⟩
  have s4_0 : IsB w4 (w2.heap.size) 25 1 3 3 1 := IsB.below (by repeat (with_reducible first | exact Hs3_0.out | apply IsB.alloc | apply IsB.drewN)) hb4
  have cs4_0_0 := blk_cell s4_0 0
  have cs4_0_1 := blk_cell s4_0 1
  have cs4_0_2 := blk_cell s4_0 2
  have cs4_0_3 := blk_cell s4_0 3
  simp only [List.getElem?_toArray, List.getElem?_cons_zero, List.getElem?_cons_succ] at cs4_0_0 cs4_0_1 cs4_0_2 cs4_0_3
  have ls4_0 := blk_lt s4_0
  have Hs4_0 := Aside0.mk s4_0; clear s4_0
  clear ls3_0 cs3_0_0 cs3_0_1 cs3_0_2 cs3_0_3
  have s4_1 : IsB w4 (w3.heap.size) 25 2 3 3 1 := IsB.below (by repeat (first | ((refine isB_at _ _ _ _ _ ?_); (simp; done)) | apply IsB.alloc)) hb4
  have cs4_1_0 := blk_cell s4_1 0
  have cs4_1_1 := blk_cell s4_1 1
  have cs4_1_2 := blk_cell s4_1 2
  have cs4_1_3 := blk_cell s4_1 3
  simp only [List.getElem?_toArray, List.getElem?_cons_zero, List.getElem?_cons_succ] at cs4_1_0 cs4_1_1 cs4_1_2 cs4_1_3
  have ls4_1 := blk_lt s4_1
  have Hs4_1 := Aside0.mk s4_1; clear s4_1
  have n0 := Aside0.mk (below_step (by repeat (first | (with_reducible first | exact HB.out | apply below_alloc | apply pw_below_drewN) | refine below_set ?_ (by omega))) hb4)
  clear HB hb4
  have HB := n0; clear n0
  rw [show wants ⟨2,3,3,1⟩ 0 2 = (⟨4,3,0,2⟩, true) from by decide]
  dsimp only [sv]
  go_wp2_with fail
  refine (go_any ⟨4,3,0,2⟩ _).mono ?_
  rintro e w5 ⟨rfl, hb5⟩
  have s5_0 : IsB w5 (w2.heap.size) 25 1 3 3 1 := IsB.below (by repeat (with_reducible first | exact Hs4_0.out | apply IsB.alloc | apply IsB.drewN)) hb5
  have cs5_0_0 := blk_cell s5_0 0
  have cs5_0_1 := blk_cell s5_0 1
  have cs5_0_2 := blk_cell s5_0 2
  have cs5_0_3 := blk_cell s5_0 3
  simp only [List.getElem?_toArray, List.getElem?_cons_zero, List.getElem?_cons_succ] at cs5_0_0 cs5_0_1 cs5_0_2 cs5_0_3
  have ls5_0 := blk_lt s5_0
  have Hs5_0 := Aside0.mk s5_0; clear s5_0
  clear ls4_0 cs4_0_0 cs4_0_1 cs4_0_2 cs4_0_3
  have s5_1 : IsB w5 (w3.heap.size) 25 2 3 3 1 := IsB.below (by repeat (with_reducible first | exact Hs4_1.out | apply IsB.alloc | apply IsB.drewN)) hb5
  have cs5_1_0 := blk_cell s5_1 0
  have cs5_1_1 := blk_cell s5_1 1
  have cs5_1_2 := blk_cell s5_1 2
  have cs5_1_3 := blk_cell s5_1 3
  simp only [List.getElem?_toArray, List.getElem?_cons_zero, List.getElem?_cons_succ] at cs5_1_0 cs5_1_1 cs5_1_2 cs5_1_3
  have ls5_1 := blk_lt s5_1
  have Hs5_1 := Aside0.mk s5_1; clear s5_1
  clear ls4_1 cs4_1_0 cs4_1_1 cs4_1_2 cs4_1_3
  have s5_2 : IsB w5 (w4.heap.size) 25 4 3 0 2 := IsB.below (by repeat (first | ((refine isB_at _ _ _ _ _ ?_); (simp; done)) | apply IsB.alloc)) hb5
  have cs5_2_0 := blk_cell s5_2 0
  have cs5_2_1 := blk_cell s5_2 1
  have cs5_2_2 := blk_cell s5_2 2
  have cs5_2_3 := blk_cell s5_2 3
  simp only [List.getElem?_toArray, List.getElem?_cons_zero, List.getElem?_cons_succ] at cs5_2_0 cs5_2_1 cs5_2_2 cs5_2_3
  have ls5_2 := blk_lt s5_2
  have Hs5_2 := Aside0.mk s5_2; clear s5_2
  have n0 := Aside0.mk (below_step (by repeat (first | (with_reducible first | exact HB.out | apply below_alloc | apply pw_below_drewN) | refine below_set ?_ (by omega))) hb5)
  clear HB hb5
  have HB := n0; clear n0
  rw [show goes ⟨4,3,0,2⟩ = (⟨0,0,0,2⟩, true) from by decide]
  dsimp only [sv]
  go_wp2
  go_ret
  exact ⟨rfl, by repeat (first | (with_reducible first | exact HB.out | apply below_alloc | apply pw_below_drewN) | refine below_set ?_ (by omega))⟩
end Go.Proofs.Ytiegioncmpkpcaa.S5
