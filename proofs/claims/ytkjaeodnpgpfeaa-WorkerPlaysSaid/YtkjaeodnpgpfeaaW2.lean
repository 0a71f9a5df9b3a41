/-
  Proved here: what worker.turn, Go, Hurt, Heal, Report answer and leave; a worker that isn't there; the example of the law package. No condition.
-/
import Derived.Test.YtkjaeodnpgpfeaaW1
import Derived.Test.YtkjaeodnpgpfeaaPWorkerPlaysx7
namespace Go.Proofs.Ytkjaeodnpgpfeaa.W2
open Go.RowKit Go.Maps Go.Sort Go.Shelf Go.Proofs.Ytkjaeodnpgpfeaa.M Go.Proofs.Ytkjaeodnpgpfeaa.S0 Go.Proofs.Ytkjaeodnpgpfeaa.S4 Go.Proofs.Ytkjaeodnpgpfeaa.W0 Go.Proofs.YtkjaeodnpgpfeaaW.PrintWords Go.Proofs.YtkjaeodnpgpfeaaW.PrintLast Go.Proofs.YtkjaeodnpgpfeaaW.PrintMore Go.Proofs.Ytkjaeodnpgpfeaa.W1
set_option linter.unusedVariables false
set_option linter.unusedSimpArgs false
attribute [local go_sem] max2_int min2_int max_two min_two run_makeMap

theorem nil_slot (f : Int → Option Sl) (k : Int) (h : f k = none) : (f k).getD zs = ⟨0, 0, 0, 0⟩ := by rw [h]; rfl
theorem some_slot (f : Int → Option Sl) (k : Int) (s : Sl) (h : f k = some s) : (f k).getD zs = s := by rw [h]; rfl

theorem below_grownBy {w w' : World} (h : Below w.heap.size w w') (row : Option Nat) : w.grownBy w' row := ⟨h.os, h.tape, h.output, h.size, fun k hk _ => h.block k hk⟩
theorem grown_then {w w2 w3 : World} {q : Nat} (h : Below w.heap.size w w2) (hg : w2.grownBy w3 (some q)) : w.grownBy w3 (some q) :=
  ⟨hg.os.trans h.os, hg.tape.trans h.tape, hg.output.trans h.output, Nat.le_trans h.size hg.size, fun k hk hne => (hg.block k (Nat.lt_of_lt_of_le hk h.size) hne).trans (h.block k hk)⟩

/-! ### go -/
set_option maxHeartbeats 1000000 in
theorem go_none (g q : Nat) (seen : Int) (f : Int → Option Sl) (k : Int) (w : World) (h : Wk w g q seen f) (he : f k = none) : Calls Try.prog 34 #[.pointer (some ⟨g, 0, none⟩), .int .i64 k, .func (.func 36) #[] #[]] w fun e w' => e = .returned (.bool false) ∧ Below w.heap.size w w' := by
  have HB := Aside0.mk (Below.refl w.heap.size w)
  have HK := Aside0.mk h
  have HE := Aside0.mk he
  clear h he
  go_enter Try.func34, Try.ntmps34
  go_wp2_with fail
  refine (slot_l g q seen f k 0 0 0 0 false _ (by repeat (with_reducible first | exact HK.out | apply Wk.alloc | apply Wk.drewN | apply Wk.drew)) (nil_slot f k HE.out) (by rw [HE.out]; rfl)).mono ?_
  rintro e w1 ⟨rfl, hb1⟩
  have n0 := Aside0.mk (below_step (by repeat (first | (with_reducible first | exact HB.out | apply below_alloc | apply pw_below_drewN | apply below_drew1) | refine below_set ?_ (by omega))) hb1)
  clear HB hb1
  have HB := n0
  clear n0
  go_wp2
  go_ret
  exact ⟨rfl, by repeat (first | (with_reducible first | exact HB.out | apply below_alloc | apply pw_below_drewN | apply below_drew1) | refine below_set ?_ (by omega))⟩
set_option maxHeartbeats 1000000 in
theorem go_nil (k : Int) (w : World) : Calls Try.prog 34 #[.pointer none, .int .i64 k, .func (.func 36) #[] #[]] w fun e w' => e = .returned (.bool false) ∧ Below w.heap.size w w' := by
  have HB := Aside0.mk (Below.refl w.heap.size w)
  go_enter Try.func34, Try.ntmps34
  go_wp2_with fail
  refine (slot_nil k _).mono ?_
  rw [show sv zs = S1.sval 0 0 0 0 from rfl]
  rintro e w1 ⟨rfl, hb1⟩
  have n0 := Aside0.mk (below_step (by repeat (first | (with_reducible first | exact HB.out | apply below_alloc | apply pw_below_drewN | apply below_drew1) | refine below_set ?_ (by omega))) hb1)
  clear HB hb1
  have HB := n0
  clear n0
  go_wp2
  go_ret
  exact ⟨rfl, by repeat (first | (with_reducible first | exact HB.out | apply below_alloc | apply pw_below_drewN | apply below_drew1) | refine below_set ?_ (by omega))⟩
set_option maxHeartbeats 2000000 in
set_option maxRecDepth 100000 in
theorem go_l (g q : Nat) (seen : Int) (f : Int → Option Sl) (k a b c d a' b' c' d' : Int) (y : Bool) (w : World) (h : Wk w g q seen f) (he : f k = some ⟨a, b, c, d⟩) (hx : goes ⟨a, b, c, d⟩ = (⟨a', b', c', d'⟩, y)) : Calls Try.prog 34 #[.pointer (some ⟨g, 0, none⟩), .int .i64 k, .func (.func 36) #[] #[]] w fun e w' => e = .returned (.bool y) ∧ WM w' q (upd f k ⟨a', b', c', d'⟩) ∧ w.grownBy w' (some q) := by
  have hc : ∀ w, Calls Try.prog 36 #[S1.sval a b c d] w fun e w' => e = .returned (.tuple #[S1.sval a' b' c' d', .bool y]) ∧ Below w.heap.size w w' := fun w => by
    have hh := go_any ⟨a, b, c, d⟩ w
    rw [hx] at hh
    exact hh
  clear hx
  have HB := Aside0.mk (Below.refl w.heap.size w)
  have HK := Aside0.mk h
  have HE := Aside0.mk he
  have D := h.blk
  have HM := Aside0.mk h.map
  have hkl := h.map.low k (by rw [he]; rfl)
  have HKL := Aside0.mk hkl
  have hq := h.map.lt
  have D_0 := blk_cell D 0
  have D_1 := blk_cell D 1
  simp only [List.getElem?_toArray, List.getElem?_cons_zero, List.getElem?_cons_succ] at D_0 D_1
  have D_z0 := blk_frozen D 0
  have D_z1 := blk_frozen D 1
  have D_l := blk_lt D
  have HD := Aside0.mk D
  clear D
  clear h he hkl
  go_enter Try.func34, Try.ntmps34
  go_wp2_with fail
  refine (slot_l g q seen f k a b c d true _ (by repeat (with_reducible first | exact HK.out | apply Wk.alloc | apply Wk.drewN | apply Wk.drew)) (some_slot f k _ HE.out) (by rw [HE.out]; rfl)).mono ?_
  rintro e w1 ⟨rfl, hb1⟩
  clear HK
  have D' := IsBlk.below (by repeat (with_reducible first | exact HD.out | apply IsBlk.alloc | apply IsBlk.drewN | apply IsBlk.drew)) hb1
  have HM' := Aside0.mk (WM.below (by repeat (with_reducible first | exact HM.out | apply WM.alloc | apply WM.drewN | apply WM.drew)) hb1)
  clear D_0 D_1 D_z0 D_z1 D_l HD
  clear HM
  have D := D'
  have HM := HM'
  clear D' HM'
  have D_0 := blk_cell D 0
  have D_1 := blk_cell D 1
  simp only [List.getElem?_toArray, List.getElem?_cons_zero, List.getElem?_cons_succ] at D_0 D_1
  have D_z0 := blk_frozen D 0
  have D_z1 := blk_frozen D 1
  have D_l := blk_lt D
  have HD := Aside0.mk D
  clear D
  have n0 := Aside0.mk (below_step (by repeat (first | (with_reducible first | exact HB.out | apply below_alloc | apply pw_below_drewN | apply below_drew1) | refine below_set ?_ (by omega))) hb1)
  clear HB hb1
  have HB := n0
  clear n0
  go_wp2_with fail
  refine (hc _).mono ?_
  rintro e w2 ⟨rfl, hb1⟩
  have D' := IsBlk.below (by repeat (with_reducible first | exact HD.out | apply IsBlk.alloc | apply IsBlk.drewN | apply IsBlk.drew)) hb1
  have HM' := Aside0.mk (WM.below (by repeat (with_reducible first | exact HM.out | apply WM.alloc | apply WM.drewN | apply WM.drew)) hb1)
  clear D_0 D_1 D_z0 D_z1 D_l HD
  clear HM
  have D := D'
  have HM := HM'
  clear D' HM'
  have D_0 := blk_cell D 0
  have D_1 := blk_cell D 1
  simp only [List.getElem?_toArray, List.getElem?_cons_zero, List.getElem?_cons_succ] at D_0 D_1
  have D_z0 := blk_frozen D 0
  have D_z1 := blk_frozen D 1
  have D_l := blk_lt D
  have HD := Aside0.mk D
  clear D
  have n0 := Aside0.mk (below_step (by repeat (first | (with_reducible first | exact HB.out | apply below_alloc | apply pw_below_drewN | apply below_drew1) | refine below_set ?_ (by omega))) hb1)
  clear HB hb1
  have HB := n0
  clear n0
  go_wp2_with fail
  go_upto_region 5 with fail
  have R4 : IsBlk (w2.alloc (.cells #[.int .i64 a', .int .i64 b', .int .i64 c', .int .i64 d'] 35)) w2.heap.size #[.int .i64 a', .int .i64 b', .int .i64 c', .int .i64 d'] 35 := IsBlk.new _ _ rfl
  have D4 : IsBlk (w2.alloc (.cells #[.int .i64 a', .int .i64 b', .int .i64 c', .int .i64 d'] 35)) g #[.map (some q), .int .i64 seen] 65 := HD.out.alloc _
  have HM4 : Aside0 (WM (w2.alloc (.cells #[.int .i64 a', .int .i64 b', .int .i64 c', .int .i64 d'] 35)) q f) := ⟨HM.out.alloc _⟩
  have HB4 : Aside0 (Below w.heap.size w (w2.alloc (.cells #[.int .i64 a', .int .i64 b', .int .i64 c', .int .i64 d'] 35))) := ⟨below_alloc HB.out _⟩
  clear D_0 D_1 D_z0 D_z1 D_l HD
  clear HB HM
  generalize (w2.alloc (.cells #[.int .i64 a', .int .i64 b', .int .i64 c', .int .i64 d'] 35)) = w4 at *
  have HB := HB4
  have HM := HM4
  have D := D4
  have R := R4
  clear HB4 HM4 D4 R4
  have D_0 := blk_cell D 0
  have D_1 := blk_cell D 1
  simp only [List.getElem?_toArray, List.getElem?_cons_zero, List.getElem?_cons_succ] at D_0 D_1
  have D_z0 := blk_frozen D 0
  have D_z1 := blk_frozen D 1
  have D_l := blk_lt D
  have HD := Aside0.mk D
  clear D
  have R_0 := blk_cell R 0
  have R_1 := blk_cell R 1
  have R_2 := blk_cell R 2
  have R_3 := blk_cell R 3
  simp only [List.getElem?_toArray, List.getElem?_cons_zero, List.getElem?_cons_succ] at R_0 R_1 R_2 R_3
  have R_z0 := blk_frozen R 0
  have R_z1 := blk_frozen R 1
  have R_z2 := blk_frozen R 2
  have R_z3 := blk_frozen R 3
  have R_l := blk_lt R
  have HR := Aside0.mk R
  clear R
  refine wp_region_still_tail 6 (by kernel_rfl) (by kernel_rfl) ?_
  simp only [List.take_succ_cons, List.take_zero, List.drop_succ_cons, List.drop_zero]
  repeat still_step
  refine wpStill_nil ?_
  refine wpList_put (f := f) (q := q) _ rfl _ _ _ rfl rfl HM.out.drew k HKL.out rfl ⟨a', b', c', d'⟩ rfl ?_
  intro w3 hM hg
  have HM' := Aside0.mk hM
  have HG := Aside0.mk (grown_then (below_drew1 HB.out) hg)
  clear hM hg HM HB
  clear R_0 R_1 R_2 R_3 R_z0 R_z1 R_z2 R_z3 R_l HR
  clear D_0 D_1 D_z0 D_z1 D_l HD
  go_wp2
  go_ret
  exact ⟨rfl, HM'.out, HG.out⟩

/-! ### hurt -/
set_option maxHeartbeats 1000000 in
theorem hurt_none (g q : Nat) (seen : Int) (f : Int → Option Sl) (k : Int) (w : World) (h : Wk w g q seen f) (he : f k = none) : Calls Try.prog 34 #[.pointer (some ⟨g, 0, none⟩), .int .i64 k, .func (.func 41) #[] #[]] w fun e w' => e = .returned (.bool false) ∧ Below w.heap.size w w' := by
  have HB := Aside0.mk (Below.refl w.heap.size w)
  have HK := Aside0.mk h
  have HE := Aside0.mk he
  clear h he
  go_enter Try.func34, Try.ntmps34
  go_wp2_with fail
  refine (slot_l g q seen f k 0 0 0 0 false _ (by repeat (with_reducible first | exact HK.out | apply Wk.alloc | apply Wk.drewN | apply Wk.drew)) (nil_slot f k HE.out) (by rw [HE.out]; rfl)).mono ?_
  rintro e w1 ⟨rfl, hb1⟩
  have n0 := Aside0.mk (below_step (by repeat (first | (with_reducible first | exact HB.out | apply below_alloc | apply pw_below_drewN | apply below_drew1) | refine below_set ?_ (by omega))) hb1)
  clear HB hb1
  have HB := n0
  clear n0
  go_wp2
  go_ret
  exact ⟨rfl, by repeat (first | (with_reducible first | exact HB.out | apply below_alloc | apply pw_below_drewN | apply below_drew1) | refine below_set ?_ (by omega))⟩
set_option maxHeartbeats 1000000 in
theorem hurt_nil (k : Int) (w : World) : Calls Try.prog 34 #[.pointer none, .int .i64 k, .func (.func 41) #[] #[]] w fun e w' => e = .returned (.bool false) ∧ Below w.heap.size w w' := by
  have HB := Aside0.mk (Below.refl w.heap.size w)
  go_enter Try.func34, Try.ntmps34
  go_wp2_with fail
  refine (slot_nil k _).mono ?_
  rw [show sv zs = S1.sval 0 0 0 0 from rfl]
  rintro e w1 ⟨rfl, hb1⟩
  have n0 := Aside0.mk (below_step (by repeat (first | (with_reducible first | exact HB.out | apply below_alloc | apply pw_below_drewN | apply below_drew1) | refine below_set ?_ (by omega))) hb1)
  clear HB hb1
  have HB := n0
  clear n0
  go_wp2
  go_ret
  exact ⟨rfl, by repeat (first | (with_reducible first | exact HB.out | apply below_alloc | apply pw_below_drewN | apply below_drew1) | refine below_set ?_ (by omega))⟩
set_option maxHeartbeats 2000000 in
set_option maxRecDepth 100000 in
theorem hurt_l (g q : Nat) (seen : Int) (f : Int → Option Sl) (k a b c d a' b' c' d' : Int) (y : Bool) (w : World) (h : Wk w g q seen f) (he : f k = some ⟨a, b, c, d⟩) (hx : turns ⟨a, b, c, d⟩ 2 3 = (⟨a', b', c', d'⟩, y)) : Calls Try.prog 34 #[.pointer (some ⟨g, 0, none⟩), .int .i64 k, .func (.func 41) #[] #[]] w fun e w' => e = .returned (.bool y) ∧ WM w' q (upd f k ⟨a', b', c', d'⟩) ∧ w.grownBy w' (some q) := by
  have hc : ∀ w, Calls Try.prog 41 #[S1.sval a b c d] w fun e w' => e = .returned (.tuple #[S1.sval a' b' c' d', .bool y]) ∧ Below w.heap.size w w' := fun w => by
    have hh := hurt_any ⟨a, b, c, d⟩ w
    rw [hx] at hh
    exact hh
  clear hx
  have HB := Aside0.mk (Below.refl w.heap.size w)
  have HK := Aside0.mk h
  have HE := Aside0.mk he
  have D := h.blk
  have HM := Aside0.mk h.map
  have hkl := h.map.low k (by rw [he]; rfl)
  have HKL := Aside0.mk hkl
  have hq := h.map.lt
  have D_0 := blk_cell D 0
  have D_1 := blk_cell D 1
  simp only [List.getElem?_toArray, List.getElem?_cons_zero, List.getElem?_cons_succ] at D_0 D_1
  have D_z0 := blk_frozen D 0
  have D_z1 := blk_frozen D 1
  have D_l := blk_lt D
  have HD := Aside0.mk D
  clear D
  clear h he hkl
  go_enter Try.func34, Try.ntmps34
  go_wp2_with fail
  refine (slot_l g q seen f k a b c d true _ (by repeat (with_reducible first | exact HK.out | apply Wk.alloc | apply Wk.drewN | apply Wk.drew)) (some_slot f k _ HE.out) (by rw [HE.out]; rfl)).mono ?_
  rintro e w1 ⟨rfl, hb1⟩
  clear HK
  have D' := IsBlk.below (by repeat (with_reducible first | exact HD.out | apply IsBlk.alloc | apply IsBlk.drewN | apply IsBlk.drew)) hb1
  have HM' := Aside0.mk (WM.below (by repeat (with_reducible first | exact HM.out | apply WM.alloc | apply WM.drewN | apply WM.drew)) hb1)
  clear D_0 D_1 D_z0 D_z1 D_l HD
  clear HM
  have D := D'
  have HM := HM'
  clear D' HM'
  have D_0 := blk_cell D 0
  have D_1 := blk_cell D 1
  simp only [List.getElem?_toArray, List.getElem?_cons_zero, List.getElem?_cons_succ] at D_0 D_1
  have D_z0 := blk_frozen D 0
  have D_z1 := blk_frozen D 1
  have D_l := blk_lt D
  have HD := Aside0.mk D
  clear D
  have n0 := Aside0.mk (below_step (by repeat (first | (with_reducible first | exact HB.out | apply below_alloc | apply pw_below_drewN | apply below_drew1) | refine below_set ?_ (by omega))) hb1)
  clear HB hb1
  have HB := n0
  clear n0
  go_wp2_with fail
  refine (hc _).mono ?_
  rintro e w2 ⟨rfl, hb1⟩
  have D' := IsBlk.below (by repeat (with_reducible first | exact HD.out | apply IsBlk.alloc | apply IsBlk.drewN | apply IsBlk.drew)) hb1
  have HM' := Aside0.mk (WM.below (by repeat (with_reducible first | exact HM.out | apply WM.alloc | apply WM.drewN | apply WM.drew)) hb1)
  clear D_0 D_1 D_z0 D_z1 D_l HD
  clear HM
  have D := D'
  have HM := HM'
  clear D' HM'
  have D_0 := blk_cell D 0
  have D_1 := blk_cell D 1
  simp only [List.getElem?_toArray, List.getElem?_cons_zero, List.getElem?_cons_succ] at D_0 D_1
  have D_z0 := blk_frozen D 0
  have D_z1 := blk_frozen D 1
  have D_l := blk_lt D
  have HD := Aside0.mk D
  clear D
  have n0 := Aside0.mk (below_step (by repeat (first | (with_reducible first | exact HB.out | apply below_alloc | apply pw_below_drewN | apply below_drew1) | refine below_set ?_ (by omega))) hb1)
  clear HB hb1
  have HB := n0
  clear n0
  go_wp2_with fail
  go_upto_region 5 with fail
  have R4 : IsBlk (w2.alloc (.cells #[.int .i64 a', .int .i64 b', .int .i64 c', .int .i64 d'] 35)) w2.heap.size #[.int .i64 a', .int .i64 b', .int .i64 c', .int .i64 d'] 35 := IsBlk.new _ _ rfl
  have D4 : IsBlk (w2.alloc (.cells #[.int .i64 a', .int .i64 b', .int .i64 c', .int .i64 d'] 35)) g #[.map (some q), .int .i64 seen] 65 := HD.out.alloc _
  have HM4 : Aside0 (WM (w2.alloc (.cells #[.int .i64 a', .int .i64 b', .int .i64 c', .int .i64 d'] 35)) q f) := ⟨HM.out.alloc _⟩
  have HB4 : Aside0 (Below w.heap.size w (w2.alloc (.cells #[.int .i64 a', .int .i64 b', .int .i64 c', .int .i64 d'] 35))) := ⟨below_alloc HB.out _⟩
  clear D_0 D_1 D_z0 D_z1 D_l HD
  clear HB HM
  generalize (w2.alloc (.cells #[.int .i64 a', .int .i64 b', .int .i64 c', .int .i64 d'] 35)) = w4 at *
  have HB := HB4
  have HM := HM4
  have D := D4
  have R := R4
  clear HB4 HM4 D4 R4
  have D_0 := blk_cell D 0
  have D_1 := blk_cell D 1
  simp only [List.getElem?_toArray, List.getElem?_cons_zero, List.getElem?_cons_succ] at D_0 D_1
  have D_z0 := blk_frozen D 0
  have D_z1 := blk_frozen D 1
  have D_l := blk_lt D
  have HD := Aside0.mk D
  clear D
  have R_0 := blk_cell R 0
  have R_1 := blk_cell R 1
  have R_2 := blk_cell R 2
  have R_3 := blk_cell R 3
  simp only [List.getElem?_toArray, List.getElem?_cons_zero, List.getElem?_cons_succ] at R_0 R_1 R_2 R_3
  have R_z0 := blk_frozen R 0
  have R_z1 := blk_frozen R 1
  have R_z2 := blk_frozen R 2
  have R_z3 := blk_frozen R 3
  have R_l := blk_lt R
  have HR := Aside0.mk R
  clear R
  refine wp_region_still_tail 6 (by kernel_rfl) (by kernel_rfl) ?_
  simp only [List.take_succ_cons, List.take_zero, List.drop_succ_cons, List.drop_zero]
  repeat still_step
  refine wpStill_nil ?_
  refine wpList_put (f := f) (q := q) _ rfl _ _ _ rfl rfl HM.out.drew k HKL.out rfl ⟨a', b', c', d'⟩ rfl ?_
  intro w3 hM hg
  have HM' := Aside0.mk hM
  have HG := Aside0.mk (grown_then (below_drew1 HB.out) hg)
  clear hM hg HM HB
  clear R_0 R_1 R_2 R_3 R_z0 R_z1 R_z2 R_z3 R_l HR
  clear D_0 D_1 D_z0 D_z1 D_l HD
  go_wp2
  go_ret
  exact ⟨rfl, HM'.out, HG.out⟩

/-! ### heal -/
set_option maxHeartbeats 1000000 in
theorem heal_none (g q : Nat) (seen : Int) (f : Int → Option Sl) (k : Int) (w : World) (h : Wk w g q seen f) (he : f k = none) : Calls Try.prog 34 #[.pointer (some ⟨g, 0, none⟩), .int .i64 k, .func (.func 42) #[] #[]] w fun e w' => e = .returned (.bool false) ∧ Below w.heap.size w w' := by
  have HB := Aside0.mk (Below.refl w.heap.size w)
  have HK := Aside0.mk h
  have HE := Aside0.mk he
  clear h he
  go_enter Try.func34, Try.ntmps34
  go_wp2_with fail
  refine (slot_l g q seen f k 0 0 0 0 false _ (by repeat (with_reducible first | exact HK.out | apply Wk.alloc | apply Wk.drewN | apply Wk.drew)) (nil_slot f k HE.out) (by rw [HE.out]; rfl)).mono ?_
  rintro e w1 ⟨rfl, hb1⟩
  have n0 := Aside0.mk (below_step (by repeat (first | (with_reducible first | exact HB.out | apply below_alloc | apply pw_below_drewN | apply below_drew1) | refine below_set ?_ (by omega))) hb1)
  clear HB hb1
  have HB := n0
  clear n0
  go_wp2
  go_ret
  exact ⟨rfl, by repeat (first | (with_reducible first | exact HB.out | apply below_alloc | apply pw_below_drewN | apply below_drew1) | refine below_set ?_ (by omega))⟩
set_option maxHeartbeats 1000000 in
theorem heal_nil (k : Int) (w : World) : Calls Try.prog 34 #[.pointer none, .int .i64 k, .func (.func 42) #[] #[]] w fun e w' => e = .returned (.bool false) ∧ Below w.heap.size w w' := by
  have HB := Aside0.mk (Below.refl w.heap.size w)
  go_enter Try.func34, Try.ntmps34
  go_wp2_with fail
  refine (slot_nil k _).mono ?_
  rw [show sv zs = S1.sval 0 0 0 0 from rfl]
  rintro e w1 ⟨rfl, hb1⟩
  have n0 := Aside0.mk (below_step (by repeat (first | (with_reducible first | exact HB.out | apply below_alloc | apply pw_below_drewN | apply below_drew1) | refine below_set ?_ (by omega))) hb1)
  clear HB hb1
  have HB := n0
  clear n0
  go_wp2
  go_ret
  exact ⟨rfl, by repeat (first | (with_reducible first | exact HB.out | apply below_alloc | apply pw_below_drewN | apply below_drew1) | refine below_set ?_ (by omega))⟩
set_option maxHeartbeats 2000000 in
set_option maxRecDepth 100000 in
theorem heal_l (g q : Nat) (seen : Int) (f : Int → Option Sl) (k a b c d a' b' c' d' : Int) (y : Bool) (w : World) (h : Wk w g q seen f) (he : f k = some ⟨a, b, c, d⟩) (hx : turns ⟨a, b, c, d⟩ 3 2 = (⟨a', b', c', d'⟩, y)) : Calls Try.prog 34 #[.pointer (some ⟨g, 0, none⟩), .int .i64 k, .func (.func 42) #[] #[]] w fun e w' => e = .returned (.bool y) ∧ WM w' q (upd f k ⟨a', b', c', d'⟩) ∧ w.grownBy w' (some q) := by
  have hc : ∀ w, Calls Try.prog 42 #[S1.sval a b c d] w fun e w' => e = .returned (.tuple #[S1.sval a' b' c' d', .bool y]) ∧ Below w.heap.size w w' := fun w => by
    have hh := heal_any ⟨a, b, c, d⟩ w
    rw [hx] at hh
    exact hh
  clear hx
  have HB := Aside0.mk (Below.refl w.heap.size w)
  have HK := Aside0.mk h
  have HE := Aside0.mk he
  have D := h.blk
  have HM := Aside0.mk h.map
  have hkl := h.map.low k (by rw [he]; rfl)
  have HKL := Aside0.mk hkl
  have hq := h.map.lt
  have D_0 := blk_cell D 0
  have D_1 := blk_cell D 1
  simp only [List.getElem?_toArray, List.getElem?_cons_zero, List.getElem?_cons_succ] at D_0 D_1
  have D_z0 := blk_frozen D 0
  have D_z1 := blk_frozen D 1
  have D_l := blk_lt D
  have HD := Aside0.mk D
  clear D
  clear h he hkl
  go_enter Try.func34, Try.ntmps34
  go_wp2_with fail
  refine (slot_l g q seen f k a b c d true _ (by repeat (with_reducible first | exact HK.out | apply Wk.alloc | apply Wk.drewN | apply Wk.drew)) (some_slot f k _ HE.out) (by rw [HE.out]; rfl)).mono ?_
  rintro e w1 ⟨rfl, hb1⟩
  clear HK
  have D' := IsBlk.below (by repeat (with_reducible first | exact HD.out | apply IsBlk.alloc | apply IsBlk.drewN | apply IsBlk.drew)) hb1
  have HM' := Aside0.mk (WM.below (by repeat (with_reducible first | exact HM.out | apply WM.alloc | apply WM.drewN | apply WM.drew)) hb1)
  clear D_0 D_1 D_z0 D_z1 D_l HD
  clear HM
  have D := D'
  have HM := HM'
  clear D' HM'
  have D_0 := blk_cell D 0
  have D_1 := blk_cell D 1
  simp only [List.getElem?_toArray, List.getElem?_cons_zero, List.getElem?_cons_succ] at D_0 D_1
  have D_z0 := blk_frozen D 0
  have D_z1 := blk_frozen D 1
  have D_l := blk_lt D
  have HD := Aside0.mk D
  clear D
  have n0 := Aside0.mk (below_step (by repeat (first | (with_reducible first | exact HB.out | apply below_alloc | apply pw_below_drewN | apply below_drew1) | refine below_set ?_ (by omega))) hb1)
  clear HB hb1
  have HB := n0
  clear n0
  go_wp2_with fail
  refine (hc _).mono ?_
  rintro e w2 ⟨rfl, hb1⟩
  have D' := IsBlk.below (by repeat (with_reducible first | exact HD.out | apply IsBlk.alloc | apply IsBlk.drewN | apply IsBlk.drew)) hb1
  have HM' := Aside0.mk (WM.below (by repeat (with_reducible first | exact HM.out | apply WM.alloc | apply WM.drewN | apply WM.drew)) hb1)
  clear D_0 D_1 D_z0 D_z1 D_l HD
  clear HM
  have D := D'
  have HM := HM'
  clear D' HM'
  have D_0 := blk_cell D 0
  have D_1 := blk_cell D 1
  simp only [List.getElem?_toArray, List.getElem?_cons_zero, List.getElem?_cons_succ] at D_0 D_1
  have D_z0 := blk_frozen D 0
  have D_z1 := blk_frozen D 1
  have D_l := blk_lt D
  have HD := Aside0.mk D
  clear D
  have n0 := Aside0.mk (below_step (by repeat (first | (with_reducible first | exact HB.out | apply below_alloc | apply pw_below_drewN | apply below_drew1) | refine below_set ?_ (by omega))) hb1)
  clear HB hb1
  have HB := n0
  clear n0
  go_wp2_with fail
  go_upto_region 5 with fail
  have R4 : IsBlk (w2.alloc (.cells #[.int .i64 a', .int .i64 b', .int .i64 c', .int .i64 d'] 35)) w2.heap.size #[.int .i64 a', .int .i64 b', .int .i64 c', .int .i64 d'] 35 := IsBlk.new _ _ rfl
  have D4 : IsBlk (w2.alloc (.cells #[.int .i64 a', .int .i64 b', .int .i64 c', .int .i64 d'] 35)) g #[.map (some q), .int .i64 seen] 65 := HD.out.alloc _
  have HM4 : Aside0 (WM (w2.alloc (.cells #[.int .i64 a', .int .i64 b', .int .i64 c', .int .i64 d'] 35)) q f) := ⟨HM.out.alloc _⟩
  have HB4 : Aside0 (Below w.heap.size w (w2.alloc (.cells #[.int .i64 a', .int .i64 b', .int .i64 c', .int .i64 d'] 35))) := ⟨below_alloc HB.out _⟩
  clear D_0 D_1 D_z0 D_z1 D_l HD
  clear HB HM
  generalize (w2.alloc (.cells #[.int .i64 a', .int .i64 b', .int .i64 c', .int .i64 d'] 35)) = w4 at *
  have HB := HB4
  have HM := HM4
  have D := D4
  have R := R4
  clear HB4 HM4 D4 R4
  have D_0 := blk_cell D 0
  have D_1 := blk_cell D 1
  simp only [List.getElem?_toArray, List.getElem?_cons_zero, List.getElem?_cons_succ] at D_0 D_1
  have D_z0 := blk_frozen D 0
  have D_z1 := blk_frozen D 1
  have D_l := blk_lt D
  have HD := Aside0.mk D
  clear D
  have R_0 := blk_cell R 0
  have R_1 := blk_cell R 1
  have R_2 := blk_cell R 2
  have R_3 := blk_cell R 3
  simp only [List.getElem?_toArray, List.getElem?_cons_zero, List.getElem?_cons_succ] at R_0 R_1 R_2 R_3
  have R_z0 := blk_frozen R 0
  have R_z1 := blk_frozen R 1
  have R_z2 := blk_frozen R 2
  have R_z3 := blk_frozen R 3
  have R_l := blk_lt R
  have HR := Aside0.mk R
  clear R
  refine wp_region_still_tail 6 (by kernel_rfl) (by kernel_rfl) ?_
  simp only [List.take_succ_cons, List.take_zero, List.drop_succ_cons, List.drop_zero]
  repeat still_step
  refine wpStill_nil ?_
  refine wpList_put (f := f) (q := q) _ rfl _ _ _ rfl rfl HM.out.drew k HKL.out rfl ⟨a', b', c', d'⟩ rfl ?_
  intro w3 hM hg
  have HM' := Aside0.mk hM
  have HG := Aside0.mk (grown_then (below_drew1 HB.out) hg)
  clear hM hg HM HB
  clear R_0 R_1 R_2 R_3 R_z0 R_z1 R_z2 R_z3 R_l HR
  clear D_0 D_1 D_z0 D_z1 D_l HD
  go_wp2
  go_ret
  exact ⟨rfl, HM'.out, HG.out⟩

/-! ### fall -/
set_option maxHeartbeats 1000000 in
theorem fall_none (g q : Nat) (seen : Int) (f : Int → Option Sl) (k : Int) (w : World) (h : Wk w g q seen f) (he : f k = none) : Calls Try.prog 34 #[.pointer (some ⟨g, 0, none⟩), .int .i64 k, .func (.func 35) #[] #[]] w fun e w' => e = .returned (.bool false) ∧ Below w.heap.size w w' := by
  have HB := Aside0.mk (Below.refl w.heap.size w)
  have HK := Aside0.mk h
  have HE := Aside0.mk he
  clear h he
  go_enter Try.func34, Try.ntmps34
  go_wp2_with fail
  refine (slot_l g q seen f k 0 0 0 0 false _ (by repeat (with_reducible first | exact HK.out | apply Wk.alloc | apply Wk.drewN | apply Wk.drew)) (nil_slot f k HE.out) (by rw [HE.out]; rfl)).mono ?_
  rintro e w1 ⟨rfl, hb1⟩
  have n0 := Aside0.mk (below_step (by repeat (first | (with_reducible first | exact HB.out | apply below_alloc | apply pw_below_drewN | apply below_drew1) | refine below_set ?_ (by omega))) hb1)
  clear HB hb1
  have HB := n0
  clear n0
  go_wp2
  go_ret
  exact ⟨rfl, by repeat (first | (with_reducible first | exact HB.out | apply below_alloc | apply pw_below_drewN | apply below_drew1) | refine below_set ?_ (by omega))⟩
set_option maxHeartbeats 1000000 in
theorem fall_nil (k : Int) (w : World) : Calls Try.prog 34 #[.pointer none, .int .i64 k, .func (.func 35) #[] #[]] w fun e w' => e = .returned (.bool false) ∧ Below w.heap.size w w' := by
  have HB := Aside0.mk (Below.refl w.heap.size w)
  go_enter Try.func34, Try.ntmps34
  go_wp2_with fail
  refine (slot_nil k _).mono ?_
  rw [show sv zs = S1.sval 0 0 0 0 from rfl]
  rintro e w1 ⟨rfl, hb1⟩
  have n0 := Aside0.mk (below_step (by repeat (first | (with_reducible first | exact HB.out | apply below_alloc | apply pw_below_drewN | apply below_drew1) | refine below_set ?_ (by omega))) hb1)
  clear HB hb1
  have HB := n0
  clear n0
  go_wp2
  go_ret
  exact ⟨rfl, by repeat (first | (with_reducible first | exact HB.out | apply below_alloc | apply pw_below_drewN | apply below_drew1) | refine below_set ?_ (by omega))⟩
set_option maxHeartbeats 2000000 in
set_option maxRecDepth 100000 in
theorem fall_l (g q : Nat) (seen : Int) (f : Int → Option Sl) (k a b c d a' b' c' d' : Int) (y : Bool) (w : World) (h : Wk w g q seen f) (he : f k = some ⟨a, b, c, d⟩) (hx : falls ⟨a, b, c, d⟩ = (⟨a', b', c', d'⟩, y)) : Calls Try.prog 34 #[.pointer (some ⟨g, 0, none⟩), .int .i64 k, .func (.func 35) #[] #[]] w fun e w' => e = .returned (.bool y) ∧ WM w' q (upd f k ⟨a', b', c', d'⟩) ∧ w.grownBy w' (some q) := by
  have hc : ∀ w, Calls Try.prog 35 #[S1.sval a b c d] w fun e w' => e = .returned (.tuple #[S1.sval a' b' c' d', .bool y]) ∧ Below w.heap.size w w' := fun w => by
    have hh := fall_any ⟨a, b, c, d⟩ w
    rw [hx] at hh
    exact hh
  clear hx
  have HB := Aside0.mk (Below.refl w.heap.size w)
  have HK := Aside0.mk h
  have HE := Aside0.mk he
  have D := h.blk
  have HM := Aside0.mk h.map
  have hkl := h.map.low k (by rw [he]; rfl)
  have HKL := Aside0.mk hkl
  have hq := h.map.lt
  have D_0 := blk_cell D 0
  have D_1 := blk_cell D 1
  simp only [List.getElem?_toArray, List.getElem?_cons_zero, List.getElem?_cons_succ] at D_0 D_1
  have D_z0 := blk_frozen D 0
  have D_z1 := blk_frozen D 1
  have D_l := blk_lt D
  have HD := Aside0.mk D
  clear D
  clear h he hkl
  go_enter Try.func34, Try.ntmps34
  go_wp2_with fail
  refine (slot_l g q seen f k a b c d true _ (by repeat (with_reducible first | exact HK.out | apply Wk.alloc | apply Wk.drewN | apply Wk.drew)) (some_slot f k _ HE.out) (by rw [HE.out]; rfl)).mono ?_
  rintro e w1 ⟨rfl, hb1⟩
  clear HK
  have D' := IsBlk.below (by repeat (with_reducible first | exact HD.out | apply IsBlk.alloc | apply IsBlk.drewN | apply IsBlk.drew)) hb1
  have HM' := Aside0.mk (WM.below (by repeat (with_reducible first | exact HM.out | apply WM.alloc | apply WM.drewN | apply WM.drew)) hb1)
  clear D_0 D_1 D_z0 D_z1 D_l HD
  clear HM
  have D := D'
  have HM := HM'
  clear D' HM'
  have D_0 := blk_cell D 0
  have D_1 := blk_cell D 1
  simp only [List.getElem?_toArray, List.getElem?_cons_zero, List.getElem?_cons_succ] at D_0 D_1
  have D_z0 := blk_frozen D 0
  have D_z1 := blk_frozen D 1
  have D_l := blk_lt D
  have HD := Aside0.mk D
  clear D
  have n0 := Aside0.mk (below_step (by repeat (first | (with_reducible first | exact HB.out | apply below_alloc | apply pw_below_drewN | apply below_drew1) | refine below_set ?_ (by omega))) hb1)
  clear HB hb1
  have HB := n0
  clear n0
  go_wp2_with fail
  refine (hc _).mono ?_
  rintro e w2 ⟨rfl, hb1⟩
  have D' := IsBlk.below (by repeat (with_reducible first | exact HD.out | apply IsBlk.alloc | apply IsBlk.drewN | apply IsBlk.drew)) hb1
  have HM' := Aside0.mk (WM.below (by repeat (with_reducible first | exact HM.out | apply WM.alloc | apply WM.drewN | apply WM.drew)) hb1)
  clear D_0 D_1 D_z0 D_z1 D_l HD
  clear HM
  have D := D'
  have HM := HM'
  clear D' HM'
  have D_0 := blk_cell D 0
  have D_1 := blk_cell D 1
  simp only [List.getElem?_toArray, List.getElem?_cons_zero, List.getElem?_cons_succ] at D_0 D_1
  have D_z0 := blk_frozen D 0
  have D_z1 := blk_frozen D 1
  have D_l := blk_lt D
  have HD := Aside0.mk D
  clear D
  have n0 := Aside0.mk (below_step (by repeat (first | (with_reducible first | exact HB.out | apply below_alloc | apply pw_below_drewN | apply below_drew1) | refine below_set ?_ (by omega))) hb1)
  clear HB hb1
  have HB := n0
  clear n0
  go_wp2_with fail
  go_upto_region 5 with fail
  have R4 : IsBlk (w2.alloc (.cells #[.int .i64 a', .int .i64 b', .int .i64 c', .int .i64 d'] 35)) w2.heap.size #[.int .i64 a', .int .i64 b', .int .i64 c', .int .i64 d'] 35 := IsBlk.new _ _ rfl
  have D4 : IsBlk (w2.alloc (.cells #[.int .i64 a', .int .i64 b', .int .i64 c', .int .i64 d'] 35)) g #[.map (some q), .int .i64 seen] 65 := HD.out.alloc _
  have HM4 : Aside0 (WM (w2.alloc (.cells #[.int .i64 a', .int .i64 b', .int .i64 c', .int .i64 d'] 35)) q f) := ⟨HM.out.alloc _⟩
  have HB4 : Aside0 (Below w.heap.size w (w2.alloc (.cells #[.int .i64 a', .int .i64 b', .int .i64 c', .int .i64 d'] 35))) := ⟨below_alloc HB.out _⟩
  clear D_0 D_1 D_z0 D_z1 D_l HD
  clear HB HM
  generalize (w2.alloc (.cells #[.int .i64 a', .int .i64 b', .int .i64 c', .int .i64 d'] 35)) = w4 at *
  have HB := HB4
  have HM := HM4
  have D := D4
  have R := R4
  clear HB4 HM4 D4 R4
  have D_0 := blk_cell D 0
  have D_1 := blk_cell D 1
  simp only [List.getElem?_toArray, List.getElem?_cons_zero, List.getElem?_cons_succ] at D_0 D_1
  have D_z0 := blk_frozen D 0
  have D_z1 := blk_frozen D 1
  have D_l := blk_lt D
  have HD := Aside0.mk D
  clear D
  have R_0 := blk_cell R 0
  have R_1 := blk_cell R 1
  have R_2 := blk_cell R 2
  have R_3 := blk_cell R 3
  simp only [List.getElem?_toArray, List.getElem?_cons_zero, List.getElem?_cons_succ] at R_0 R_1 R_2 R_3
  have R_z0 := blk_frozen R 0
  have R_z1 := blk_frozen R 1
  have R_z2 := blk_frozen R 2
  have R_z3 := blk_frozen R 3
  have R_l := blk_lt R
  have HR := Aside0.mk R
  clear R
  refine wp_region_still_tail 6 (by kernel_rfl) (by kernel_rfl) ?_
  simp only [List.take_succ_cons, List.take_zero, List.drop_succ_cons, List.drop_zero]
  repeat still_step
  refine wpStill_nil ?_
  refine wpList_put (f := f) (q := q) _ rfl _ _ _ rfl rfl HM.out.drew k HKL.out rfl ⟨a', b', c', d'⟩ rfl ?_
  intro w3 hM hg
  have HM' := Aside0.mk hM
  have HG := Aside0.mk (grown_then (below_drew1 HB.out) hg)
  clear hM hg HM HB
  clear R_0 R_1 R_2 R_3 R_z0 R_z1 R_z2 R_z3 R_l HR
  clear D_0 D_1 D_z0 D_z1 D_l HD
  go_wp2
  go_ret
  exact ⟨rfl, HM'.out, HG.out⟩
end Go.Proofs.Ytkjaeodnpgpfeaa.W2
