/-
  Proved here: what the law's function step answers of one slot told both ways: both next slots are the same. No condition.
-/
import Derived.Test.YtiegioncmpkpcaaS6
namespace Go.Proofs.Ytiegioncmpkpcaa.S7
open Go.RowKit Go.Proofs.Ytiegioncmpkpcaa.S0 Go.Proofs.Ytiegioncmpkpcaa.S1 Go.Proofs.Ytiegioncmpkpcaa.S2 Go.Proofs.Ytiegioncmpkpcaa.S3 Go.Proofs.Ytiegioncmpkpcaa.S4 Go.Proofs.Ytiegioncmpkpcaa.S5 Go.Proofs.Ytiegioncmpkpcaa.S6 Go.Proofs.YtiegioncmpkpcaaW.PrintWords Go.Proofs.YtiegioncmpkpcaaW.PrintLast Go.Proofs.YtiegioncmpkpcaaW.PrintMore
set_option linter.unusedVariables false
set_option linter.unusedSimpArgs false
/-- Block g is these cells, none of them frozen. -/
def IsBlk (w : World) (g : Nat) (cs : Array Value) (t : TypeId) : Prop := w.heap[g]? = some (.cells cs t (0, 0))
theorem IsBlk.below {W w1 : World} {g : Nat} {t : TypeId} {cs : Array Value} (h : IsBlk W g cs t) (hb : Below W.heap.size W w1) : IsBlk w1 g cs t := (hb.block g (blk_lt h)).trans h
theorem IsBlk.alloc {w : World} {g : Nat} {t : TypeId} {cs : Array Value} (h : IsBlk w g cs t) (o : Obj) : IsBlk (w.alloc o) g cs t := (Below.heap_alloc w o g (blk_lt h)).trans h
theorem IsBlk.drewN {w : World} {g : Nat} {t : TypeId} {cs : Array Value} (h : IsBlk w g cs t) (n : Nat) : IsBlk (w.drewN n) g cs t := h
theorem IsBlk.drew {w : World} {g : Nat} {t : TypeId} {cs : Array Value} (h : IsBlk w g cs t) : IsBlk w.drew g cs t := h
theorem IsBlk.set {w : World} {g : Nat} {t : TypeId} {cs : Array Value} (h : IsBlk w g cs t) (i : Nat) (u : Value) : IsBlk (w.setCell ⟨g, i, none⟩ u) g (cs.setIfInBounds i u) t := blk_set h i u
theorem IsBlk.far {w : World} {g : Nat} {t : TypeId} {cs : Array Value} (h : IsBlk w g cs t) {p : Addr} (hp : g ≠ p.block) (u : Value) : IsBlk (w.setCell p u) g cs t := blk_far h hp u
theorem IsBlk.set4 {w : World} {g : Nat} {t : TypeId} {a b c d x0 x1 x2 x3 : Value} (h : IsBlk w g #[a, b, c, d] t) : IsBlk ((((w.setCell ⟨g, 0, none⟩ x0).setCell ⟨g, 1, none⟩ x1).setCell ⟨g, 2, none⟩ x2).setCell ⟨g, 3, none⟩ x3) g #[x0, x1, x2, x3] t :=
  blk_set (blk_set (blk_set (blk_set h 0 _) 1 _) 2 _) 3 _
theorem IsBlk.far4 {w : World} {g k : Nat} {t : TypeId} {cs : Array Value} {x0 x1 x2 x3 : Value} (h : IsBlk w g cs t) (hp : g ≠ k) : IsBlk ((((w.setCell ⟨k, 0, none⟩ x0).setCell ⟨k, 1, none⟩ x1).setCell ⟨k, 2, none⟩ x2).setCell ⟨k, 3, none⟩ x3) g cs t :=
  (((h.far hp _).far hp _).far hp _).far hp _
theorem IsBlk.new {W : World} {g : Nat} (t : TypeId) (cs : Array Value) (hg : g = W.heap.size) : IsBlk (W.alloc (.cells cs t)) g cs t := by
  subst hg; exact heap_alloc_new W _

set_option maxHeartbeats 2000000 in
theorem step0 (a b c d n p q y0 y1 y2 y3 : Int) (r : Bool) (w : World) (e_Y : wants ⟨a, b, c, d⟩ p q = (⟨y0, y1, y2, y3⟩, r)) (h0 : ((IntKind.u64.wrap n).tmod 5 == 0) = true) : Calls Try.prog 12 #[S1.sval a b c d, S1.sval a b c d, .int .i64 n, .agg #[.int .i64 p, .int .i64 q]] w fun e w' => e = .returned (.tuple #[S1.sval y0 y1 y2 y3, S1.sval y0 y1 y2 y3, .bool true]) ∧ Below w.heap.size w w' := by
  have HY := Aside0.mk e_Y
  clear e_Y
  have HB := Aside0.mk (Below.refl w.heap.size w)
  go_enter Try.func12, Try.ntmps12
  go_wp2_with fail
  refine (want_any ⟨a, b, c, d⟩ p q _).mono ?_
  rintro e w1 ⟨rfl, hb1⟩
  have s1_0 : IsBlk w1 (w.heap.size + 1) #[.int .i64 a, .int .i64 b, .int .i64 c, .int .i64 d] 23 := IsBlk.below (by repeat (first | ((refine IsBlk.new _ _ ?_); (simp; done)) | apply IsBlk.alloc | apply IsBlk.drewN)) hb1
  have cs1_0_0 := blk_cell s1_0 0
  have cs1_0_1 := blk_cell s1_0 1
  have cs1_0_2 := blk_cell s1_0 2
  have cs1_0_3 := blk_cell s1_0 3
  simp only [List.getElem?_toArray, List.getElem?_cons_zero, List.getElem?_cons_succ] at cs1_0_0 cs1_0_1 cs1_0_2 cs1_0_3
  have ls1_0 := blk_lt s1_0
  have Hs1_0 := Aside0.mk s1_0; clear s1_0
  have s1_1 : IsBlk w1 (w.heap.size + 1 + 1) #[.int .i64 p, .int .i64 q] 35 := IsBlk.below (by repeat (first | ((refine IsBlk.new _ _ ?_); (simp; done)) | apply IsBlk.alloc | apply IsBlk.drewN)) hb1
  have cs1_1_0 := blk_cell s1_1 0
  have cs1_1_1 := blk_cell s1_1 1
  simp only [List.getElem?_toArray, List.getElem?_cons_zero, List.getElem?_cons_succ] at cs1_1_0 cs1_1_1
  have ls1_1 := blk_lt s1_1
  have Hs1_1 := Aside0.mk s1_1; clear s1_1
  have s1_2 : IsBlk w1 (w.heap.size + 1 + 1 + 1) #[.int .i64 0, .int .i64 0, .int .i64 0, .int .i64 0] 25 := IsBlk.below (by repeat (first | ((refine IsBlk.new _ _ ?_); (simp; done)) | apply IsBlk.alloc | apply IsBlk.drewN)) hb1
  have cs1_2_0 := blk_cell s1_2 0
  have cs1_2_1 := blk_cell s1_2 1
  have cs1_2_2 := blk_cell s1_2 2
  have cs1_2_3 := blk_cell s1_2 3
  simp only [List.getElem?_toArray, List.getElem?_cons_zero, List.getElem?_cons_succ] at cs1_2_0 cs1_2_1 cs1_2_2 cs1_2_3
  have zs1_2_0 := blk_frozen s1_2 0
  have zs1_2_1 := blk_frozen s1_2 1
  have zs1_2_2 := blk_frozen s1_2 2
  have zs1_2_3 := blk_frozen s1_2 3
  have ls1_2 := blk_lt s1_2
  have Hs1_2 := Aside0.mk s1_2; clear s1_2
  have s1_3 : IsBlk w1 (w.heap.size + 1 + 1 + 1 + 1) #[.int .i64 0, .int .i64 0, .int .i64 0, .int .i64 0] 23 := IsBlk.below (by repeat (first | ((refine IsBlk.new _ _ ?_); (simp; done)) | apply IsBlk.alloc | apply IsBlk.drewN)) hb1
  have cs1_3_0 := blk_cell s1_3 0
  have cs1_3_1 := blk_cell s1_3 1
  have cs1_3_2 := blk_cell s1_3 2
  have cs1_3_3 := blk_cell s1_3 3
  simp only [List.getElem?_toArray, List.getElem?_cons_zero, List.getElem?_cons_succ] at cs1_3_0 cs1_3_1 cs1_3_2 cs1_3_3
  have zs1_3_0 := blk_frozen s1_3 0
  have zs1_3_1 := blk_frozen s1_3 1
  have zs1_3_2 := blk_frozen s1_3 2
  have zs1_3_3 := blk_frozen s1_3 3
  have ls1_3 := blk_lt s1_3
  have Hs1_3 := Aside0.mk s1_3; clear s1_3
  have n0 := Aside0.mk (below_step (by repeat (first | (with_reducible first | exact HB.out | apply below_alloc | apply pw_below_drewN | apply below_drew1) | refine below_set ?_ (by omega))) hb1)
  clear HB hb1
  have HB := n0; clear n0
  rw [HY.out]
  dsimp only [sv]
  go_wp2_with fail
  refine (rwant_any ⟨a, b, c, d⟩ p q _).mono ?_
  rintro e w2 ⟨rfl, hb2⟩
  have s2_0 : IsBlk w2 (w.heap.size + 1) #[.int .i64 a, .int .i64 b, .int .i64 c, .int .i64 d] 23 := IsBlk.below (by repeat (with_reducible first | exact Hs1_0.out | apply IsBlk.alloc | apply IsBlk.drewN | apply IsBlk.drew)) hb2
  have cs2_0_0 := blk_cell s2_0 0
  have cs2_0_1 := blk_cell s2_0 1
  have cs2_0_2 := blk_cell s2_0 2
  have cs2_0_3 := blk_cell s2_0 3
  simp only [List.getElem?_toArray, List.getElem?_cons_zero, List.getElem?_cons_succ] at cs2_0_0 cs2_0_1 cs2_0_2 cs2_0_3
  have ls2_0 := blk_lt s2_0
  have Hs2_0 := Aside0.mk s2_0; clear s2_0
  clear ls1_0 cs1_0_0 cs1_0_1 cs1_0_2 cs1_0_3
  have s2_1 : IsBlk w2 (w.heap.size + 1 + 1) #[.int .i64 p, .int .i64 q] 35 := IsBlk.below (by repeat (with_reducible first | exact Hs1_1.out | apply IsBlk.alloc | apply IsBlk.drewN | apply IsBlk.drew)) hb2
  have cs2_1_0 := blk_cell s2_1 0
  have cs2_1_1 := blk_cell s2_1 1
  simp only [List.getElem?_toArray, List.getElem?_cons_zero, List.getElem?_cons_succ] at cs2_1_0 cs2_1_1
  have ls2_1 := blk_lt s2_1
  have Hs2_1 := Aside0.mk s2_1; clear s2_1
  clear ls1_1 cs1_1_0 cs1_1_1
  have s2_2 : IsBlk w2 (w.heap.size + 1 + 1 + 1) #[.int .i64 0, .int .i64 0, .int .i64 0, .int .i64 0] 25 := IsBlk.below (by repeat (with_reducible first | exact Hs1_2.out | apply IsBlk.alloc | apply IsBlk.drewN | apply IsBlk.drew)) hb2
  have cs2_2_0 := blk_cell s2_2 0
  have cs2_2_1 := blk_cell s2_2 1
  have cs2_2_2 := blk_cell s2_2 2
  have cs2_2_3 := blk_cell s2_2 3
  simp only [List.getElem?_toArray, List.getElem?_cons_zero, List.getElem?_cons_succ] at cs2_2_0 cs2_2_1 cs2_2_2 cs2_2_3
  have zs2_2_0 := blk_frozen s2_2 0
  have zs2_2_1 := blk_frozen s2_2 1
  have zs2_2_2 := blk_frozen s2_2 2
  have zs2_2_3 := blk_frozen s2_2 3
  have ls2_2 := blk_lt s2_2
  have Hs2_2 := Aside0.mk s2_2; clear s2_2
  clear ls1_2 cs1_2_0 cs1_2_1 cs1_2_2 cs1_2_3 zs1_2_0 zs1_2_1 zs1_2_2 zs1_2_3
  have s2_3 : IsBlk w2 (w.heap.size + 1 + 1 + 1 + 1) #[.int .i64 0, .int .i64 0, .int .i64 0, .int .i64 0] 23 := IsBlk.below (by repeat (with_reducible first | exact Hs1_3.out | apply IsBlk.alloc | apply IsBlk.drewN | apply IsBlk.drew)) hb2
  have cs2_3_0 := blk_cell s2_3 0
  have cs2_3_1 := blk_cell s2_3 1
  have cs2_3_2 := blk_cell s2_3 2
  have cs2_3_3 := blk_cell s2_3 3
  simp only [List.getElem?_toArray, List.getElem?_cons_zero, List.getElem?_cons_succ] at cs2_3_0 cs2_3_1 cs2_3_2 cs2_3_3
  have zs2_3_0 := blk_frozen s2_3 0
  have zs2_3_1 := blk_frozen s2_3 1
  have zs2_3_2 := blk_frozen s2_3 2
  have zs2_3_3 := blk_frozen s2_3 3
  have ls2_3 := blk_lt s2_3
  have Hs2_3 := Aside0.mk s2_3; clear s2_3
  clear ls1_3 cs1_3_0 cs1_3_1 cs1_3_2 cs1_3_3 zs1_3_0 zs1_3_1 zs1_3_2 zs1_3_3
  have s2_4 : IsBlk w2 (w1.heap.size) #[.int .i64 y0, .int .i64 y1, .int .i64 y2, .int .i64 y3] 25 := IsBlk.below (by repeat (first | ((refine IsBlk.new _ _ ?_); (simp; done)) | apply IsBlk.alloc | apply IsBlk.drewN)) hb2
  have cs2_4_0 := blk_cell s2_4 0
  have cs2_4_1 := blk_cell s2_4 1
  have cs2_4_2 := blk_cell s2_4 2
  have cs2_4_3 := blk_cell s2_4 3
  simp only [List.getElem?_toArray, List.getElem?_cons_zero, List.getElem?_cons_succ] at cs2_4_0 cs2_4_1 cs2_4_2 cs2_4_3
  have ls2_4 := blk_lt s2_4
  have Hs2_4 := Aside0.mk s2_4; clear s2_4
  have n0 := Aside0.mk (below_step (by repeat (first | (with_reducible first | exact HB.out | apply below_alloc | apply pw_below_drewN | apply below_drew1) | refine below_set ?_ (by omega))) hb2)
  clear HB hb2
  have HB := n0; clear n0
  rw [HY.out]
  dsimp only [sv]
  have hw1 := below_size HB.out
  go_wp2
  go_region
  go_wp2
  exact bodyPost_ret (v := .tuple #[S1.sval y0 y1 y2 y3, S1.sval y0 y1 y2 y3, .bool true]) (by simp [results, Try.results12, go_sem, *]) rfl ⟨rfl, by repeat (first | (with_reducible first | exact HB.out | apply below_alloc | apply pw_below_drewN | apply below_drew1) | refine below_set ?_ (by omega))⟩

set_option maxHeartbeats 2000000 in
theorem step1 (a b c d n p q y0 y1 y2 y3 : Int) (r : Bool) (w : World) (e_Y : goes ⟨a, b, c, d⟩ = (⟨y0, y1, y2, y3⟩, r)) (h0 : ((IntKind.u64.wrap n).tmod 5 == 0) = false) (h1 : ((IntKind.u64.wrap n).tmod 5 == 1) = true) : Calls Try.prog 12 #[S1.sval a b c d, S1.sval a b c d, .int .i64 n, .agg #[.int .i64 p, .int .i64 q]] w fun e w' => e = .returned (.tuple #[S1.sval y0 y1 y2 y3, S1.sval y0 y1 y2 y3, .bool true]) ∧ Below w.heap.size w w' := by
  have HY := Aside0.mk e_Y
  clear e_Y
  have HB := Aside0.mk (Below.refl w.heap.size w)
  go_enter Try.func12, Try.ntmps12
  go_wp2_with fail
  refine (go_any ⟨a, b, c, d⟩ _).mono ?_
  rintro e w1 ⟨rfl, hb1⟩
  have s1_0 : IsBlk w1 (w.heap.size + 1) #[.int .i64 a, .int .i64 b, .int .i64 c, .int .i64 d] 23 := IsBlk.below (by repeat (first | ((refine IsBlk.new _ _ ?_); (simp; done)) | apply IsBlk.alloc | apply IsBlk.drewN)) hb1
  have cs1_0_0 := blk_cell s1_0 0
  have cs1_0_1 := blk_cell s1_0 1
  have cs1_0_2 := blk_cell s1_0 2
  have cs1_0_3 := blk_cell s1_0 3
  simp only [List.getElem?_toArray, List.getElem?_cons_zero, List.getElem?_cons_succ] at cs1_0_0 cs1_0_1 cs1_0_2 cs1_0_3
  have ls1_0 := blk_lt s1_0
  have Hs1_0 := Aside0.mk s1_0; clear s1_0
  have s1_1 : IsBlk w1 (w.heap.size + 1 + 1) #[.int .i64 p, .int .i64 q] 35 := IsBlk.below (by repeat (first | ((refine IsBlk.new _ _ ?_); (simp; done)) | apply IsBlk.alloc | apply IsBlk.drewN)) hb1
  have cs1_1_0 := blk_cell s1_1 0
  have cs1_1_1 := blk_cell s1_1 1
  simp only [List.getElem?_toArray, List.getElem?_cons_zero, List.getElem?_cons_succ] at cs1_1_0 cs1_1_1
  have ls1_1 := blk_lt s1_1
  have Hs1_1 := Aside0.mk s1_1; clear s1_1
  have s1_2 : IsBlk w1 (w.heap.size + 1 + 1 + 1) #[.int .i64 0, .int .i64 0, .int .i64 0, .int .i64 0] 25 := IsBlk.below (by repeat (first | ((refine IsBlk.new _ _ ?_); (simp; done)) | apply IsBlk.alloc | apply IsBlk.drewN)) hb1
  have cs1_2_0 := blk_cell s1_2 0
  have cs1_2_1 := blk_cell s1_2 1
  have cs1_2_2 := blk_cell s1_2 2
  have cs1_2_3 := blk_cell s1_2 3
  simp only [List.getElem?_toArray, List.getElem?_cons_zero, List.getElem?_cons_succ] at cs1_2_0 cs1_2_1 cs1_2_2 cs1_2_3
  have zs1_2_0 := blk_frozen s1_2 0
  have zs1_2_1 := blk_frozen s1_2 1
  have zs1_2_2 := blk_frozen s1_2 2
  have zs1_2_3 := blk_frozen s1_2 3
  have ls1_2 := blk_lt s1_2
  have Hs1_2 := Aside0.mk s1_2; clear s1_2
  have s1_3 : IsBlk w1 (w.heap.size + 1 + 1 + 1 + 1) #[.int .i64 0, .int .i64 0, .int .i64 0, .int .i64 0] 23 := IsBlk.below (by repeat (first | ((refine IsBlk.new _ _ ?_); (simp; done)) | apply IsBlk.alloc | apply IsBlk.drewN)) hb1
  have cs1_3_0 := blk_cell s1_3 0
  have cs1_3_1 := blk_cell s1_3 1
  have cs1_3_2 := blk_cell s1_3 2
  have cs1_3_3 := blk_cell s1_3 3
  simp only [List.getElem?_toArray, List.getElem?_cons_zero, List.getElem?_cons_succ] at cs1_3_0 cs1_3_1 cs1_3_2 cs1_3_3
  have zs1_3_0 := blk_frozen s1_3 0
  have zs1_3_1 := blk_frozen s1_3 1
  have zs1_3_2 := blk_frozen s1_3 2
  have zs1_3_3 := blk_frozen s1_3 3
  have ls1_3 := blk_lt s1_3
  have Hs1_3 := Aside0.mk s1_3; clear s1_3
  have n0 := Aside0.mk (below_step (by repeat (first | (with_reducible first | exact HB.out | apply below_alloc | apply pw_below_drewN | apply below_drew1) | refine below_set ?_ (by omega))) hb1)
  clear HB hb1
  have HB := n0; clear n0
  rw [HY.out]
  dsimp only [sv]
  go_wp2_with fail
  refine (rgo_any ⟨a, b, c, d⟩ _).mono ?_
  rintro e w2 ⟨rfl, hb2⟩
  have s2_0 : IsBlk w2 (w.heap.size + 1) #[.int .i64 a, .int .i64 b, .int .i64 c, .int .i64 d] 23 := IsBlk.below (by repeat (with_reducible first | exact Hs1_0.out | apply IsBlk.alloc | apply IsBlk.drewN | apply IsBlk.drew)) hb2
  have cs2_0_0 := blk_cell s2_0 0
  have cs2_0_1 := blk_cell s2_0 1
  have cs2_0_2 := blk_cell s2_0 2
  have cs2_0_3 := blk_cell s2_0 3
  simp only [List.getElem?_toArray, List.getElem?_cons_zero, List.getElem?_cons_succ] at cs2_0_0 cs2_0_1 cs2_0_2 cs2_0_3
  have ls2_0 := blk_lt s2_0
  have Hs2_0 := Aside0.mk s2_0; clear s2_0
  clear ls1_0 cs1_0_0 cs1_0_1 cs1_0_2 cs1_0_3
  have s2_1 : IsBlk w2 (w.heap.size + 1 + 1) #[.int .i64 p, .int .i64 q] 35 := IsBlk.below (by repeat (with_reducible first | exact Hs1_1.out | apply IsBlk.alloc | apply IsBlk.drewN | apply IsBlk.drew)) hb2
  have cs2_1_0 := blk_cell s2_1 0
  have cs2_1_1 := blk_cell s2_1 1
  simp only [List.getElem?_toArray, List.getElem?_cons_zero, List.getElem?_cons_succ] at cs2_1_0 cs2_1_1
  have ls2_1 := blk_lt s2_1
  have Hs2_1 := Aside0.mk s2_1; clear s2_1
  clear ls1_1 cs1_1_0 cs1_1_1
  have s2_2 : IsBlk w2 (w.heap.size + 1 + 1 + 1) #[.int .i64 0, .int .i64 0, .int .i64 0, .int .i64 0] 25 := IsBlk.below (by repeat (with_reducible first | exact Hs1_2.out | apply IsBlk.alloc | apply IsBlk.drewN | apply IsBlk.drew)) hb2
  have cs2_2_0 := blk_cell s2_2 0
  have cs2_2_1 := blk_cell s2_2 1
  have cs2_2_2 := blk_cell s2_2 2
  have cs2_2_3 := blk_cell s2_2 3
  simp only [List.getElem?_toArray, List.getElem?_cons_zero, List.getElem?_cons_succ] at cs2_2_0 cs2_2_1 cs2_2_2 cs2_2_3
  have zs2_2_0 := blk_frozen s2_2 0
  have zs2_2_1 := blk_frozen s2_2 1
  have zs2_2_2 := blk_frozen s2_2 2
  have zs2_2_3 := blk_frozen s2_2 3
  have ls2_2 := blk_lt s2_2
  have Hs2_2 := Aside0.mk s2_2; clear s2_2
  clear ls1_2 cs1_2_0 cs1_2_1 cs1_2_2 cs1_2_3 zs1_2_0 zs1_2_1 zs1_2_2 zs1_2_3
  have s2_3 : IsBlk w2 (w.heap.size + 1 + 1 + 1 + 1) #[.int .i64 0, .int .i64 0, .int .i64 0, .int .i64 0] 23 := IsBlk.below (by repeat (with_reducible first | exact Hs1_3.out | apply IsBlk.alloc | apply IsBlk.drewN | apply IsBlk.drew)) hb2
  have cs2_3_0 := blk_cell s2_3 0
  have cs2_3_1 := blk_cell s2_3 1
  have cs2_3_2 := blk_cell s2_3 2
  have cs2_3_3 := blk_cell s2_3 3
  simp only [List.getElem?_toArray, List.getElem?_cons_zero, List.getElem?_cons_succ] at cs2_3_0 cs2_3_1 cs2_3_2 cs2_3_3
  have zs2_3_0 := blk_frozen s2_3 0
  have zs2_3_1 := blk_frozen s2_3 1
  have zs2_3_2 := blk_frozen s2_3 2
  have zs2_3_3 := blk_frozen s2_3 3
  have ls2_3 := blk_lt s2_3
  have Hs2_3 := Aside0.mk s2_3; clear s2_3
  clear ls1_3 cs1_3_0 cs1_3_1 cs1_3_2 cs1_3_3 zs1_3_0 zs1_3_1 zs1_3_2 zs1_3_3
  have s2_4 : IsBlk w2 (w1.heap.size) #[.int .i64 y0, .int .i64 y1, .int .i64 y2, .int .i64 y3] 25 := IsBlk.below (by repeat (first | ((refine IsBlk.new _ _ ?_); (simp; done)) | apply IsBlk.alloc | apply IsBlk.drewN)) hb2
  have cs2_4_0 := blk_cell s2_4 0
  have cs2_4_1 := blk_cell s2_4 1
  have cs2_4_2 := blk_cell s2_4 2
  have cs2_4_3 := blk_cell s2_4 3
  simp only [List.getElem?_toArray, List.getElem?_cons_zero, List.getElem?_cons_succ] at cs2_4_0 cs2_4_1 cs2_4_2 cs2_4_3
  have ls2_4 := blk_lt s2_4
  have Hs2_4 := Aside0.mk s2_4; clear s2_4
  have n0 := Aside0.mk (below_step (by repeat (first | (with_reducible first | exact HB.out | apply below_alloc | apply pw_below_drewN | apply below_drew1) | refine below_set ?_ (by omega))) hb2)
  clear HB hb2
  have HB := n0; clear n0
  rw [HY.out]
  dsimp only [sv]
  have hw1 := below_size HB.out
  go_wp2
  go_region
  go_wp2
  exact bodyPost_ret (v := .tuple #[S1.sval y0 y1 y2 y3, S1.sval y0 y1 y2 y3, .bool true]) (by simp [results, Try.results12, go_sem, *]) rfl ⟨rfl, by repeat (first | (with_reducible first | exact HB.out | apply below_alloc | apply pw_below_drewN | apply below_drew1) | refine below_set ?_ (by omega))⟩

set_option maxHeartbeats 2000000 in
theorem step2 (a b c d n p q y0 y1 y2 y3 : Int) (r : Bool) (w : World) (e_Y : turns ⟨a, b, c, d⟩ 2 3 = (⟨y0, y1, y2, y3⟩, r)) (h0 : ((IntKind.u64.wrap n).tmod 5 == 0) = false) (h1 : ((IntKind.u64.wrap n).tmod 5 == 1) = false) (h2 : ((IntKind.u64.wrap n).tmod 5 == 2) = true) : Calls Try.prog 12 #[S1.sval a b c d, S1.sval a b c d, .int .i64 n, .agg #[.int .i64 p, .int .i64 q]] w fun e w' => e = .returned (.tuple #[S1.sval y0 y1 y2 y3, S1.sval y0 y1 y2 y3, .bool true]) ∧ Below w.heap.size w w' := by
  have HY := Aside0.mk e_Y
  clear e_Y
  have HB := Aside0.mk (Below.refl w.heap.size w)
  go_enter Try.func12, Try.ntmps12
  go_wp2_with fail
  refine (hurt_any ⟨a, b, c, d⟩ _).mono ?_
  rintro e w1 ⟨rfl, hb1⟩
  have s1_0 : IsBlk w1 (w.heap.size + 1) #[.int .i64 a, .int .i64 b, .int .i64 c, .int .i64 d] 23 := IsBlk.below (by repeat (first | ((refine IsBlk.new _ _ ?_); (simp; done)) | apply IsBlk.alloc | apply IsBlk.drewN)) hb1
  have cs1_0_0 := blk_cell s1_0 0
  have cs1_0_1 := blk_cell s1_0 1
  have cs1_0_2 := blk_cell s1_0 2
  have cs1_0_3 := blk_cell s1_0 3
  simp only [List.getElem?_toArray, List.getElem?_cons_zero, List.getElem?_cons_succ] at cs1_0_0 cs1_0_1 cs1_0_2 cs1_0_3
  have ls1_0 := blk_lt s1_0
  have Hs1_0 := Aside0.mk s1_0; clear s1_0
  have s1_1 : IsBlk w1 (w.heap.size + 1 + 1) #[.int .i64 p, .int .i64 q] 35 := IsBlk.below (by repeat (first | ((refine IsBlk.new _ _ ?_); (simp; done)) | apply IsBlk.alloc | apply IsBlk.drewN)) hb1
  have cs1_1_0 := blk_cell s1_1 0
  have cs1_1_1 := blk_cell s1_1 1
  simp only [List.getElem?_toArray, List.getElem?_cons_zero, List.getElem?_cons_succ] at cs1_1_0 cs1_1_1
  have ls1_1 := blk_lt s1_1
  have Hs1_1 := Aside0.mk s1_1; clear s1_1
  have s1_2 : IsBlk w1 (w.heap.size + 1 + 1 + 1) #[.int .i64 0, .int .i64 0, .int .i64 0, .int .i64 0] 25 := IsBlk.below (by repeat (first | ((refine IsBlk.new _ _ ?_); (simp; done)) | apply IsBlk.alloc | apply IsBlk.drewN)) hb1
  have cs1_2_0 := blk_cell s1_2 0
  have cs1_2_1 := blk_cell s1_2 1
  have cs1_2_2 := blk_cell s1_2 2
  have cs1_2_3 := blk_cell s1_2 3
  simp only [List.getElem?_toArray, List.getElem?_cons_zero, List.getElem?_cons_succ] at cs1_2_0 cs1_2_1 cs1_2_2 cs1_2_3
  have zs1_2_0 := blk_frozen s1_2 0
  have zs1_2_1 := blk_frozen s1_2 1
  have zs1_2_2 := blk_frozen s1_2 2
  have zs1_2_3 := blk_frozen s1_2 3
  have ls1_2 := blk_lt s1_2
  have Hs1_2 := Aside0.mk s1_2; clear s1_2
  have s1_3 : IsBlk w1 (w.heap.size + 1 + 1 + 1 + 1) #[.int .i64 0, .int .i64 0, .int .i64 0, .int .i64 0] 23 := IsBlk.below (by repeat (first | ((refine IsBlk.new _ _ ?_); (simp; done)) | apply IsBlk.alloc | apply IsBlk.drewN)) hb1
  have cs1_3_0 := blk_cell s1_3 0
  have cs1_3_1 := blk_cell s1_3 1
  have cs1_3_2 := blk_cell s1_3 2
  have cs1_3_3 := blk_cell s1_3 3
  simp only [List.getElem?_toArray, List.getElem?_cons_zero, List.getElem?_cons_succ] at cs1_3_0 cs1_3_1 cs1_3_2 cs1_3_3
  have zs1_3_0 := blk_frozen s1_3 0
  have zs1_3_1 := blk_frozen s1_3 1
  have zs1_3_2 := blk_frozen s1_3 2
  have zs1_3_3 := blk_frozen s1_3 3
  have ls1_3 := blk_lt s1_3
  have Hs1_3 := Aside0.mk s1_3; clear s1_3
  have n0 := Aside0.mk (below_step (by repeat (first | (with_reducible first | exact HB.out | apply below_alloc | apply pw_below_drewN | apply below_drew1) | refine below_set ?_ (by omega))) hb1)
  clear HB hb1
  have HB := n0; clear n0
  rw [HY.out]
  dsimp only [sv]
  go_wp2_with fail
  refine (rturn_any ⟨a, b, c, d⟩ 2 3 _).mono ?_
  rintro e w2 ⟨rfl, hb2⟩
  have s2_0 : IsBlk w2 (w.heap.size + 1) #[.int .i64 a, .int .i64 b, .int .i64 c, .int .i64 d] 23 := IsBlk.below (by repeat (with_reducible first | exact Hs1_0.out | apply IsBlk.alloc | apply IsBlk.drewN | apply IsBlk.drew)) hb2
  have cs2_0_0 := blk_cell s2_0 0
  have cs2_0_1 := blk_cell s2_0 1
  have cs2_0_2 := blk_cell s2_0 2
  have cs2_0_3 := blk_cell s2_0 3
  simp only [List.getElem?_toArray, List.getElem?_cons_zero, List.getElem?_cons_succ] at cs2_0_0 cs2_0_1 cs2_0_2 cs2_0_3
  have ls2_0 := blk_lt s2_0
  have Hs2_0 := Aside0.mk s2_0; clear s2_0
  clear ls1_0 cs1_0_0 cs1_0_1 cs1_0_2 cs1_0_3
  have s2_1 : IsBlk w2 (w.heap.size + 1 + 1) #[.int .i64 p, .int .i64 q] 35 := IsBlk.below (by repeat (with_reducible first | exact Hs1_1.out | apply IsBlk.alloc | apply IsBlk.drewN | apply IsBlk.drew)) hb2
  have cs2_1_0 := blk_cell s2_1 0
  have cs2_1_1 := blk_cell s2_1 1
  simp only [List.getElem?_toArray, List.getElem?_cons_zero, List.getElem?_cons_succ] at cs2_1_0 cs2_1_1
  have ls2_1 := blk_lt s2_1
  have Hs2_1 := Aside0.mk s2_1; clear s2_1
  clear ls1_1 cs1_1_0 cs1_1_1
  have s2_2 : IsBlk w2 (w.heap.size + 1 + 1 + 1) #[.int .i64 0, .int .i64 0, .int .i64 0, .int .i64 0] 25 := IsBlk.below (by repeat (with_reducible first | exact Hs1_2.out | apply IsBlk.alloc | apply IsBlk.drewN | apply IsBlk.drew)) hb2
  have cs2_2_0 := blk_cell s2_2 0
  have cs2_2_1 := blk_cell s2_2 1
  have cs2_2_2 := blk_cell s2_2 2
  have cs2_2_3 := blk_cell s2_2 3
  simp only [List.getElem?_toArray, List.getElem?_cons_zero, List.getElem?_cons_succ] at cs2_2_0 cs2_2_1 cs2_2_2 cs2_2_3
  have zs2_2_0 := blk_frozen s2_2 0
  have zs2_2_1 := blk_frozen s2_2 1
  have zs2_2_2 := blk_frozen s2_2 2
  have zs2_2_3 := blk_frozen s2_2 3
  have ls2_2 := blk_lt s2_2
  have Hs2_2 := Aside0.mk s2_2; clear s2_2
  clear ls1_2 cs1_2_0 cs1_2_1 cs1_2_2 cs1_2_3 zs1_2_0 zs1_2_1 zs1_2_2 zs1_2_3
  have s2_3 : IsBlk w2 (w.heap.size + 1 + 1 + 1 + 1) #[.int .i64 0, .int .i64 0, .int .i64 0, .int .i64 0] 23 := IsBlk.below (by repeat (with_reducible first | exact Hs1_3.out | apply IsBlk.alloc | apply IsBlk.drewN | apply IsBlk.drew)) hb2
  have cs2_3_0 := blk_cell s2_3 0
  have cs2_3_1 := blk_cell s2_3 1
  have cs2_3_2 := blk_cell s2_3 2
  have cs2_3_3 := blk_cell s2_3 3
  simp only [List.getElem?_toArray, List.getElem?_cons_zero, List.getElem?_cons_succ] at cs2_3_0 cs2_3_1 cs2_3_2 cs2_3_3
  have zs2_3_0 := blk_frozen s2_3 0
  have zs2_3_1 := blk_frozen s2_3 1
  have zs2_3_2 := blk_frozen s2_3 2
  have zs2_3_3 := blk_frozen s2_3 3
  have ls2_3 := blk_lt s2_3
  have Hs2_3 := Aside0.mk s2_3; clear s2_3
  clear ls1_3 cs1_3_0 cs1_3_1 cs1_3_2 cs1_3_3 zs1_3_0 zs1_3_1 zs1_3_2 zs1_3_3
  have s2_4 : IsBlk w2 (w1.heap.size) #[.int .i64 y0, .int .i64 y1, .int .i64 y2, .int .i64 y3] 25 := IsBlk.below (by repeat (first | ((refine IsBlk.new _ _ ?_); (simp; done)) | apply IsBlk.alloc | apply IsBlk.drewN)) hb2
  have cs2_4_0 := blk_cell s2_4 0
  have cs2_4_1 := blk_cell s2_4 1
  have cs2_4_2 := blk_cell s2_4 2
  have cs2_4_3 := blk_cell s2_4 3
  simp only [List.getElem?_toArray, List.getElem?_cons_zero, List.getElem?_cons_succ] at cs2_4_0 cs2_4_1 cs2_4_2 cs2_4_3
  have ls2_4 := blk_lt s2_4
  have Hs2_4 := Aside0.mk s2_4; clear s2_4
  have n0 := Aside0.mk (below_step (by repeat (first | (with_reducible first | exact HB.out | apply below_alloc | apply pw_below_drewN | apply below_drew1) | refine below_set ?_ (by omega))) hb2)
  clear HB hb2
  have HB := n0; clear n0
  rw [HY.out]
  dsimp only [sv]
  have hw1 := below_size HB.out
  go_wp2
  go_region
  go_wp2
  exact bodyPost_ret (v := .tuple #[S1.sval y0 y1 y2 y3, S1.sval y0 y1 y2 y3, .bool true]) (by simp [results, Try.results12, go_sem, *]) rfl ⟨rfl, by repeat (first | (with_reducible first | exact HB.out | apply below_alloc | apply pw_below_drewN | apply below_drew1) | refine below_set ?_ (by omega))⟩

set_option maxHeartbeats 2000000 in
theorem step3 (a b c d n p q y0 y1 y2 y3 : Int) (r : Bool) (w : World) (e_Y : turns ⟨a, b, c, d⟩ 3 2 = (⟨y0, y1, y2, y3⟩, r)) (h0 : ((IntKind.u64.wrap n).tmod 5 == 0) = false) (h1 : ((IntKind.u64.wrap n).tmod 5 == 1) = false) (h2 : ((IntKind.u64.wrap n).tmod 5 == 2) = false) (h3 : ((IntKind.u64.wrap n).tmod 5 == 3) = true) : Calls Try.prog 12 #[S1.sval a b c d, S1.sval a b c d, .int .i64 n, .agg #[.int .i64 p, .int .i64 q]] w fun e w' => e = .returned (.tuple #[S1.sval y0 y1 y2 y3, S1.sval y0 y1 y2 y3, .bool true]) ∧ Below w.heap.size w w' := by
  have HY := Aside0.mk e_Y
  clear e_Y
  have HB := Aside0.mk (Below.refl w.heap.size w)
  go_enter Try.func12, Try.ntmps12
  go_wp2_with fail
  refine (heal_any ⟨a, b, c, d⟩ _).mono ?_
  rintro e w1 ⟨rfl, hb1⟩
  have s1_0 : IsBlk w1 (w.heap.size + 1) #[.int .i64 a, .int .i64 b, .int .i64 c, .int .i64 d] 23 := IsBlk.below (by repeat (first | ((refine IsBlk.new _ _ ?_); (simp; done)) | apply IsBlk.alloc | apply IsBlk.drewN)) hb1
  have cs1_0_0 := blk_cell s1_0 0
  have cs1_0_1 := blk_cell s1_0 1
  have cs1_0_2 := blk_cell s1_0 2
  have cs1_0_3 := blk_cell s1_0 3
  simp only [List.getElem?_toArray, List.getElem?_cons_zero, List.getElem?_cons_succ] at cs1_0_0 cs1_0_1 cs1_0_2 cs1_0_3
  have ls1_0 := blk_lt s1_0
  have Hs1_0 := Aside0.mk s1_0; clear s1_0
  have s1_1 : IsBlk w1 (w.heap.size + 1 + 1) #[.int .i64 p, .int .i64 q] 35 := IsBlk.below (by repeat (first | ((refine IsBlk.new _ _ ?_); (simp; done)) | apply IsBlk.alloc | apply IsBlk.drewN)) hb1
  have cs1_1_0 := blk_cell s1_1 0
  have cs1_1_1 := blk_cell s1_1 1
  simp only [List.getElem?_toArray, List.getElem?_cons_zero, List.getElem?_cons_succ] at cs1_1_0 cs1_1_1
  have ls1_1 := blk_lt s1_1
  have Hs1_1 := Aside0.mk s1_1; clear s1_1
  have s1_2 : IsBlk w1 (w.heap.size + 1 + 1 + 1) #[.int .i64 0, .int .i64 0, .int .i64 0, .int .i64 0] 25 := IsBlk.below (by repeat (first | ((refine IsBlk.new _ _ ?_); (simp; done)) | apply IsBlk.alloc | apply IsBlk.drewN)) hb1
  have cs1_2_0 := blk_cell s1_2 0
  have cs1_2_1 := blk_cell s1_2 1
  have cs1_2_2 := blk_cell s1_2 2
  have cs1_2_3 := blk_cell s1_2 3
  simp only [List.getElem?_toArray, List.getElem?_cons_zero, List.getElem?_cons_succ] at cs1_2_0 cs1_2_1 cs1_2_2 cs1_2_3
  have zs1_2_0 := blk_frozen s1_2 0
  have zs1_2_1 := blk_frozen s1_2 1
  have zs1_2_2 := blk_frozen s1_2 2
  have zs1_2_3 := blk_frozen s1_2 3
  have ls1_2 := blk_lt s1_2
  have Hs1_2 := Aside0.mk s1_2; clear s1_2
  have s1_3 : IsBlk w1 (w.heap.size + 1 + 1 + 1 + 1) #[.int .i64 0, .int .i64 0, .int .i64 0, .int .i64 0] 23 := IsBlk.below (by repeat (first | ((refine IsBlk.new _ _ ?_); (simp; done)) | apply IsBlk.alloc | apply IsBlk.drewN)) hb1
  have cs1_3_0 := blk_cell s1_3 0
  have cs1_3_1 := blk_cell s1_3 1
  have cs1_3_2 := blk_cell s1_3 2
  have cs1_3_3 := blk_cell s1_3 3
  simp only [List.getElem?_toArray, List.getElem?_cons_zero, List.getElem?_cons_succ] at cs1_3_0 cs1_3_1 cs1_3_2 cs1_3_3
  have zs1_3_0 := blk_frozen s1_3 0
  have zs1_3_1 := blk_frozen s1_3 1
  have zs1_3_2 := blk_frozen s1_3 2
  have zs1_3_3 := blk_frozen s1_3 3
  have ls1_3 := blk_lt s1_3
  have Hs1_3 := Aside0.mk s1_3; clear s1_3
  have n0 := Aside0.mk (below_step (by repeat (first | (with_reducible first | exact HB.out | apply below_alloc | apply pw_below_drewN | apply below_drew1) | refine below_set ?_ (by omega))) hb1)
  clear HB hb1
  have HB := n0; clear n0
  rw [HY.out]
  dsimp only [sv]
  go_wp2_with fail
  refine (rturn_any ⟨a, b, c, d⟩ 3 2 _).mono ?_
  rintro e w2 ⟨rfl, hb2⟩
  have s2_0 : IsBlk w2 (w.heap.size + 1) #[.int .i64 a, .int .i64 b, .int .i64 c, .int .i64 d] 23 := IsBlk.below (by repeat (with_reducible first | exact Hs1_0.out | apply IsBlk.alloc | apply IsBlk.drewN | apply IsBlk.drew)) hb2
  have cs2_0_0 := blk_cell s2_0 0
  have cs2_0_1 := blk_cell s2_0 1
  have cs2_0_2 := blk_cell s2_0 2
  have cs2_0_3 := blk_cell s2_0 3
  simp only [List.getElem?_toArray, List.getElem?_cons_zero, List.getElem?_cons_succ] at cs2_0_0 cs2_0_1 cs2_0_2 cs2_0_3
  have ls2_0 := blk_lt s2_0
  have Hs2_0 := Aside0.mk s2_0; clear s2_0
  clear ls1_0 cs1_0_0 cs1_0_1 cs1_0_2 cs1_0_3
  have s2_1 : IsBlk w2 (w.heap.size + 1 + 1) #[.int .i64 p, .int .i64 q] 35 := IsBlk.below (by repeat (with_reducible first | exact Hs1_1.out | apply IsBlk.alloc | apply IsBlk.drewN | apply IsBlk.drew)) hb2
  have cs2_1_0 := blk_cell s2_1 0
  have cs2_1_1 := blk_cell s2_1 1
  simp only [List.getElem?_toArray, List.getElem?_cons_zero, List.getElem?_cons_succ] at cs2_1_0 cs2_1_1
  have ls2_1 := blk_lt s2_1
  have Hs2_1 := Aside0.mk s2_1; clear s2_1
  clear ls1_1 cs1_1_0 cs1_1_1
  have s2_2 : IsBlk w2 (w.heap.size + 1 + 1 + 1) #[.int .i64 0, .int .i64 0, .int .i64 0, .int .i64 0] 25 := IsBlk.below (by repeat (with_reducible first | exact Hs1_2.out | apply IsBlk.alloc | apply IsBlk.drewN | apply IsBlk.drew)) hb2
  have cs2_2_0 := blk_cell s2_2 0
  have cs2_2_1 := blk_cell s2_2 1
  have cs2_2_2 := blk_cell s2_2 2
  have cs2_2_3 := blk_cell s2_2 3
  simp only [List.getElem?_toArray, List.getElem?_cons_zero, List.getElem?_cons_succ] at cs2_2_0 cs2_2_1 cs2_2_2 cs2_2_3
  have zs2_2_0 := blk_frozen s2_2 0
  have zs2_2_1 := blk_frozen s2_2 1
  have zs2_2_2 := blk_frozen s2_2 2
  have zs2_2_3 := blk_frozen s2_2 3
  have ls2_2 := blk_lt s2_2
  have Hs2_2 := Aside0.mk s2_2; clear s2_2
  clear ls1_2 cs1_2_0 cs1_2_1 cs1_2_2 cs1_2_3 zs1_2_0 zs1_2_1 zs1_2_2 zs1_2_3
  have s2_3 : IsBlk w2 (w.heap.size + 1 + 1 + 1 + 1) #[.int .i64 0, .int .i64 0, .int .i64 0, .int .i64 0] 23 := IsBlk.below (by repeat (with_reducible first | exact Hs1_3.out | apply IsBlk.alloc | apply IsBlk.drewN | apply IsBlk.drew)) hb2
  have cs2_3_0 := blk_cell s2_3 0
  have cs2_3_1 := blk_cell s2_3 1
  have cs2_3_2 := blk_cell s2_3 2
  have cs2_3_3 := blk_cell s2_3 3
  simp only [List.getElem?_toArray, List.getElem?_cons_zero, List.getElem?_cons_succ] at cs2_3_0 cs2_3_1 cs2_3_2 cs2_3_3
  have zs2_3_0 := blk_frozen s2_3 0
  have zs2_3_1 := blk_frozen s2_3 1
  have zs2_3_2 := blk_frozen s2_3 2
  have zs2_3_3 := blk_frozen s2_3 3
  have ls2_3 := blk_lt s2_3
  have Hs2_3 := Aside0.mk s2_3; clear s2_3
  clear ls1_3 cs1_3_0 cs1_3_1 cs1_3_2 cs1_3_3 zs1_3_0 zs1_3_1 zs1_3_2 zs1_3_3
  have s2_4 : IsBlk w2 (w1.heap.size) #[.int .i64 y0, .int .i64 y1, .int .i64 y2, .int .i64 y3] 25 := IsBlk.below (by repeat (first | ((refine IsBlk.new _ _ ?_); (simp; done)) | apply IsBlk.alloc | apply IsBlk.drewN)) hb2
  have cs2_4_0 := blk_cell s2_4 0
  have cs2_4_1 := blk_cell s2_4 1
  have cs2_4_2 := blk_cell s2_4 2
  have cs2_4_3 := blk_cell s2_4 3
  simp only [List.getElem?_toArray, List.getElem?_cons_zero, List.getElem?_cons_succ] at cs2_4_0 cs2_4_1 cs2_4_2 cs2_4_3
  have ls2_4 := blk_lt s2_4
  have Hs2_4 := Aside0.mk s2_4; clear s2_4
  have n0 := Aside0.mk (below_step (by repeat (first | (with_reducible first | exact HB.out | apply below_alloc | apply pw_below_drewN | apply below_drew1) | refine below_set ?_ (by omega))) hb2)
  clear HB hb2
  have HB := n0; clear n0
  rw [HY.out]
  dsimp only [sv]
  have hw1 := below_size HB.out
  go_wp2
  go_region
  go_wp2
  exact bodyPost_ret (v := .tuple #[S1.sval y0 y1 y2 y3, S1.sval y0 y1 y2 y3, .bool true]) (by simp [results, Try.results12, go_sem, *]) rfl ⟨rfl, by repeat (first | (with_reducible first | exact HB.out | apply below_alloc | apply pw_below_drewN | apply below_drew1) | refine below_set ?_ (by omega))⟩

set_option maxHeartbeats 2000000 in
theorem step4 (a b c d n p q y0 y1 y2 y3 : Int) (r : Bool) (w : World) (e_Y : falls ⟨a, b, c, d⟩ = (⟨y0, y1, y2, y3⟩, r)) (h0 : ((IntKind.u64.wrap n).tmod 5 == 0) = false) (h1 : ((IntKind.u64.wrap n).tmod 5 == 1) = false) (h2 : ((IntKind.u64.wrap n).tmod 5 == 2) = false) (h3 : ((IntKind.u64.wrap n).tmod 5 == 3) = false) : Calls Try.prog 12 #[S1.sval a b c d, S1.sval a b c d, .int .i64 n, .agg #[.int .i64 p, .int .i64 q]] w fun e w' => e = .returned (.tuple #[S1.sval y0 y1 y2 y3, S1.sval y0 y1 y2 y3, .bool true]) ∧ Below w.heap.size w w' := by
  have HY := Aside0.mk e_Y
  clear e_Y
  have HB := Aside0.mk (Below.refl w.heap.size w)
  go_enter Try.func12, Try.ntmps12
  go_wp2_with fail
  refine (fall_any ⟨a, b, c, d⟩ _).mono ?_
  rintro e w1 ⟨rfl, hb1⟩
  have s1_0 : IsBlk w1 (w.heap.size + 1) #[.int .i64 a, .int .i64 b, .int .i64 c, .int .i64 d] 23 := IsBlk.below (by repeat (first | ((refine IsBlk.new _ _ ?_); (simp; done)) | apply IsBlk.alloc | apply IsBlk.drewN)) hb1
  have cs1_0_0 := blk_cell s1_0 0
  have cs1_0_1 := blk_cell s1_0 1
  have cs1_0_2 := blk_cell s1_0 2
  have cs1_0_3 := blk_cell s1_0 3
  simp only [List.getElem?_toArray, List.getElem?_cons_zero, List.getElem?_cons_succ] at cs1_0_0 cs1_0_1 cs1_0_2 cs1_0_3
  have ls1_0 := blk_lt s1_0
  have Hs1_0 := Aside0.mk s1_0; clear s1_0
  have s1_1 : IsBlk w1 (w.heap.size + 1 + 1) #[.int .i64 p, .int .i64 q] 35 := IsBlk.below (by repeat (first | ((refine IsBlk.new _ _ ?_); (simp; done)) | apply IsBlk.alloc | apply IsBlk.drewN)) hb1
  have cs1_1_0 := blk_cell s1_1 0
  have cs1_1_1 := blk_cell s1_1 1
  simp only [List.getElem?_toArray, List.getElem?_cons_zero, List.getElem?_cons_succ] at cs1_1_0 cs1_1_1
  have ls1_1 := blk_lt s1_1
  have Hs1_1 := Aside0.mk s1_1; clear s1_1
  have s1_2 : IsBlk w1 (w.heap.size + 1 + 1 + 1) #[.int .i64 0, .int .i64 0, .int .i64 0, .int .i64 0] 25 := IsBlk.below (by repeat (first | ((refine IsBlk.new _ _ ?_); (simp; done)) | apply IsBlk.alloc | apply IsBlk.drewN)) hb1
  have cs1_2_0 := blk_cell s1_2 0
  have cs1_2_1 := blk_cell s1_2 1
  have cs1_2_2 := blk_cell s1_2 2
  have cs1_2_3 := blk_cell s1_2 3
  simp only [List.getElem?_toArray, List.getElem?_cons_zero, List.getElem?_cons_succ] at cs1_2_0 cs1_2_1 cs1_2_2 cs1_2_3
  have zs1_2_0 := blk_frozen s1_2 0
  have zs1_2_1 := blk_frozen s1_2 1
  have zs1_2_2 := blk_frozen s1_2 2
  have zs1_2_3 := blk_frozen s1_2 3
  have ls1_2 := blk_lt s1_2
  have Hs1_2 := Aside0.mk s1_2; clear s1_2
  have s1_3 : IsBlk w1 (w.heap.size + 1 + 1 + 1 + 1) #[.int .i64 0, .int .i64 0, .int .i64 0, .int .i64 0] 23 := IsBlk.below (by repeat (first | ((refine IsBlk.new _ _ ?_); (simp; done)) | apply IsBlk.alloc | apply IsBlk.drewN)) hb1
  have cs1_3_0 := blk_cell s1_3 0
  have cs1_3_1 := blk_cell s1_3 1
  have cs1_3_2 := blk_cell s1_3 2
  have cs1_3_3 := blk_cell s1_3 3
  simp only [List.getElem?_toArray, List.getElem?_cons_zero, List.getElem?_cons_succ] at cs1_3_0 cs1_3_1 cs1_3_2 cs1_3_3
  have zs1_3_0 := blk_frozen s1_3 0
  have zs1_3_1 := blk_frozen s1_3 1
  have zs1_3_2 := blk_frozen s1_3 2
  have zs1_3_3 := blk_frozen s1_3 3
  have ls1_3 := blk_lt s1_3
  have Hs1_3 := Aside0.mk s1_3; clear s1_3
  have n0 := Aside0.mk (below_step (by repeat (first | (with_reducible first | exact HB.out | apply below_alloc | apply pw_below_drewN | apply below_drew1) | refine below_set ?_ (by omega))) hb1)
  clear HB hb1
  have HB := n0; clear n0
  rw [HY.out]
  dsimp only [sv]
  go_wp2_with fail
  refine (rfall_any ⟨a, b, c, d⟩ _).mono ?_
  rintro e w2 ⟨rfl, hb2⟩
  have s2_0 : IsBlk w2 (w.heap.size + 1) #[.int .i64 a, .int .i64 b, .int .i64 c, .int .i64 d] 23 := IsBlk.below (by repeat (with_reducible first | exact Hs1_0.out | apply IsBlk.alloc | apply IsBlk.drewN | apply IsBlk.drew)) hb2
  have cs2_0_0 := blk_cell s2_0 0
  have cs2_0_1 := blk_cell s2_0 1
  have cs2_0_2 := blk_cell s2_0 2
  have cs2_0_3 := blk_cell s2_0 3
  simp only [List.getElem?_toArray, List.getElem?_cons_zero, List.getElem?_cons_succ] at cs2_0_0 cs2_0_1 cs2_0_2 cs2_0_3
  have ls2_0 := blk_lt s2_0
  have Hs2_0 := Aside0.mk s2_0; clear s2_0
  clear ls1_0 cs1_0_0 cs1_0_1 cs1_0_2 cs1_0_3
  have s2_1 : IsBlk w2 (w.heap.size + 1 + 1) #[.int .i64 p, .int .i64 q] 35 := IsBlk.below (by repeat (with_reducible first | exact Hs1_1.out | apply IsBlk.alloc | apply IsBlk.drewN | apply IsBlk.drew)) hb2
  have cs2_1_0 := blk_cell s2_1 0
  have cs2_1_1 := blk_cell s2_1 1
  simp only [List.getElem?_toArray, List.getElem?_cons_zero, List.getElem?_cons_succ] at cs2_1_0 cs2_1_1
  have ls2_1 := blk_lt s2_1
  have Hs2_1 := Aside0.mk s2_1; clear s2_1
  clear ls1_1 cs1_1_0 cs1_1_1
  have s2_2 : IsBlk w2 (w.heap.size + 1 + 1 + 1) #[.int .i64 0, .int .i64 0, .int .i64 0, .int .i64 0] 25 := IsBlk.below (by repeat (with_reducible first | exact Hs1_2.out | apply IsBlk.alloc | apply IsBlk.drewN | apply IsBlk.drew)) hb2
  have cs2_2_0 := blk_cell s2_2 0
  have cs2_2_1 := blk_cell s2_2 1
  have cs2_2_2 := blk_cell s2_2 2
  have cs2_2_3 := blk_cell s2_2 3
  simp only [List.getElem?_toArray, List.getElem?_cons_zero, List.getElem?_cons_succ] at cs2_2_0 cs2_2_1 cs2_2_2 cs2_2_3
  have zs2_2_0 := blk_frozen s2_2 0
  have zs2_2_1 := blk_frozen s2_2 1
  have zs2_2_2 := blk_frozen s2_2 2
  have zs2_2_3 := blk_frozen s2_2 3
  have ls2_2 := blk_lt s2_2
  have Hs2_2 := Aside0.mk s2_2; clear s2_2
  clear ls1_2 cs1_2_0 cs1_2_1 cs1_2_2 cs1_2_3 zs1_2_0 zs1_2_1 zs1_2_2 zs1_2_3
  have s2_3 : IsBlk w2 (w.heap.size + 1 + 1 + 1 + 1) #[.int .i64 0, .int .i64 0, .int .i64 0, .int .i64 0] 23 := IsBlk.below (by repeat (with_reducible first | exact Hs1_3.out | apply IsBlk.alloc | apply IsBlk.drewN | apply IsBlk.drew)) hb2
  have cs2_3_0 := blk_cell s2_3 0
  have cs2_3_1 := blk_cell s2_3 1
  have cs2_3_2 := blk_cell s2_3 2
  have cs2_3_3 := blk_cell s2_3 3
  simp only [List.getElem?_toArray, List.getElem?_cons_zero, List.getElem?_cons_succ] at cs2_3_0 cs2_3_1 cs2_3_2 cs2_3_3
  have zs2_3_0 := blk_frozen s2_3 0
  have zs2_3_1 := blk_frozen s2_3 1
  have zs2_3_2 := blk_frozen s2_3 2
  have zs2_3_3 := blk_frozen s2_3 3
  have ls2_3 := blk_lt s2_3
  have Hs2_3 := Aside0.mk s2_3; clear s2_3
  clear ls1_3 cs1_3_0 cs1_3_1 cs1_3_2 cs1_3_3 zs1_3_0 zs1_3_1 zs1_3_2 zs1_3_3
  have s2_4 : IsBlk w2 (w1.heap.size) #[.int .i64 y0, .int .i64 y1, .int .i64 y2, .int .i64 y3] 25 := IsBlk.below (by repeat (first | ((refine IsBlk.new _ _ ?_); (simp; done)) | apply IsBlk.alloc | apply IsBlk.drewN)) hb2
  have cs2_4_0 := blk_cell s2_4 0
  have cs2_4_1 := blk_cell s2_4 1
  have cs2_4_2 := blk_cell s2_4 2
  have cs2_4_3 := blk_cell s2_4 3
  simp only [List.getElem?_toArray, List.getElem?_cons_zero, List.getElem?_cons_succ] at cs2_4_0 cs2_4_1 cs2_4_2 cs2_4_3
  have ls2_4 := blk_lt s2_4
  have Hs2_4 := Aside0.mk s2_4; clear s2_4
  have n0 := Aside0.mk (below_step (by repeat (first | (with_reducible first | exact HB.out | apply below_alloc | apply pw_below_drewN | apply below_drew1) | refine below_set ?_ (by omega))) hb2)
  clear HB hb2
  have HB := n0; clear n0
  rw [HY.out]
  dsimp only [sv]
  have hw1 := below_size HB.out
  go_wp2
  go_region
  go_wp2
  exact bodyPost_ret (v := .tuple #[S1.sval y0 y1 y2 y3, S1.sval y0 y1 y2 y3, .bool true]) (by simp [results, Try.results12, go_sem, *]) rfl ⟨rfl, by repeat (first | (with_reducible first | exact HB.out | apply below_alloc | apply pw_below_drewN | apply below_drew1) | refine below_set ?_ (by omega))⟩

/-- What happens to a slot, by a kind. -/
def next (s : Sl) (n p q : Int) : Sl :=
  if (IntKind.u64.wrap n).tmod 5 = 0 then (wants s p q).1 else if (IntKind.u64.wrap n).tmod 5 = 1 then (goes s).1 else if (IntKind.u64.wrap n).tmod 5 = 2 then (turns s 2 3).1 else if (IntKind.u64.wrap n).tmod 5 = 3 then (turns s 3 2).1 else (falls s).1

theorem step_any (s : Sl) (n p q : Int) (w : World) : Calls Try.prog 12 #[sv s, sv s, .int .i64 n, .agg #[.int .i64 p, .int .i64 q]] w fun e w' => e = .returned (.tuple #[sv (next s n p q), sv (next s n p q), .bool true]) ∧ Below w.heap.size w w' := by
  obtain ⟨a, b, c, d⟩ := s
  unfold next
  generalize hk : (IntKind.u64.wrap n).tmod 5 = k
  by_cases h0 : k = 0
  · rw [if_pos h0]
    exact step0 a b c d n p q _ _ _ _ _ w rfl (by rw [hk]; simp [h0])
  · rw [if_neg h0]
    by_cases h1 : k = 1
    · rw [if_pos h1]
      exact step1 a b c d n p q _ _ _ _ _ w rfl (by rw [hk]; simp [h0]) (by rw [hk]; simp [h1])
    · rw [if_neg h1]
      by_cases h2 : k = 2
      · rw [if_pos h2]
        exact step2 a b c d n p q _ _ _ _ _ w rfl (by rw [hk]; simp [h0]) (by rw [hk]; simp [h1]) (by rw [hk]; simp [h2])
      · rw [if_neg h2]
        by_cases h3 : k = 3
        · rw [if_pos h3]
          exact step3 a b c d n p q _ _ _ _ _ w rfl (by rw [hk]; simp [h0]) (by rw [hk]; simp [h1]) (by rw [hk]; simp [h2]) (by rw [hk]; simp [h3])
        · rw [if_neg h3]
          exact step4 a b c d n p q _ _ _ _ _ w rfl (by rw [hk]; simp [h0]) (by rw [hk]; simp [h1]) (by rw [hk]; simp [h2]) (by rw [hk]; simp [h3])

theorem wants_right (s : Sl) (v q : Int) (h : right s = true) : right (wants s v q).1 = true := by
  unfold wants
  split
  · rename_i hc
    obtain ⟨_, h1, h2⟩ := hc
    unfold right at h ⊢
    simp only [decide_eq_true_eq] at h
    split <;> simp only [decide_eq_true_eq] <;> omega
  · exact h
theorem next_right (s : Sl) (n p q : Int) (h : right s = true) : right (next s n p q) = true := by
  unfold next
  (repeat' split)
  · exact wants_right s p q h
  · unfold goes
    (repeat' split) <;> first | exact h | (unfold right at h ⊢; simp only [decide_eq_true_eq] at h ⊢; omega)
  · unfold turns
    split
    · rename_i hc
      obtain ⟨_, h1⟩ := hc
      unfold right at h ⊢; simp only [decide_eq_true_eq] at h ⊢; omega
    · exact h
  · unfold turns
    split
    · rename_i hc
      obtain ⟨_, h1⟩ := hc
      unfold right at h ⊢; simp only [decide_eq_true_eq] at h ⊢; omega
    · exact h
  · unfold falls
    rw [if_pos h]
    unfold right at h ⊢; simp only [decide_eq_true_eq] at h ⊢; omega
end Go.Proofs.Ytiegioncmpkpcaa.S7
