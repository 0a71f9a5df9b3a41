/-
  Proved here: what slot.Want, Go, Hurt, Heal, Fall answer, of any slots. No condition.
-/
import Derived.Test.YtkjaeodnpgpfeaaS1
import Derived.Test.YtkjaeodnpgpfeaaS2
namespace Go.Proofs.Ytkjaeodnpgpfeaa.S3
open Go.RowKit Go.Proofs.Ytkjaeodnpgpfeaa.S0 Go.Proofs.Ytkjaeodnpgpfeaa.S1 Go.Proofs.Ytkjaeodnpgpfeaa.S2 Go.Proofs.YtkjaeodnpgpfeaaW.PrintWords Go.Proofs.YtkjaeodnpgpfeaaW.PrintLast Go.Proofs.YtkjaeodnpgpfeaaW.PrintMore
set_option linter.unusedVariables false
set_option linter.unusedSimpArgs false

theorem gcell {W w1 : World} {g : Nat} (h : W.grownBy w1 (some g)) : (∀ b o, b < W.heap.size → b ≠ g → w1.cell? ⟨b, o, none⟩ = W.cell? ⟨b, o, none⟩) ∧ (∀ b o, b < W.heap.size → b ≠ g → w1.frozen? ⟨b, o, none⟩ = W.frozen? ⟨b, o, none⟩) :=
  ⟨fun b o hb hne => World.cell?_of_block (w := W) (h.block b hb (by simpa using hne)), fun b o hb hne => World.frozen?_of_block (w := W) (h.block b hb (by simpa using hne))⟩
theorem below_by {w W w1 : World} {g : Nat} (h : Below w.heap.size w W) (hg : W.grownBy w1 (some g)) (hB : w.heap.size ≤ g) : Below w.heap.size w w1 :=
  h.grown hg h.size (fun k hk => by cases hk; exact hB)
theorem isSlot_at {W : World} {g : Nat} (a b c d : Int) (hg : g = W.heap.size) : IsSlot (W.alloc (.cells #[.int .i64 a, .int .i64 b, .int .i64 c, .int .i64 d] 35)) g a b c d := by
  subst hg; exact heap_alloc_new W _

set_option maxHeartbeats 1000000 in
theorem want_not (a b c d v q : Int) (w : World) (h : right ⟨a, b, c, d⟩ = false) : Calls Try.prog 26 #[S1.sval a b c d, .int .i64 v, .int .i64 q] w fun e w' => e = .returned (.tuple #[S1.sval a b c d, .bool false]) ∧ Below w.heap.size w w' := by
  have HB := Aside0.mk (Below.refl w.heap.size w)
  go_enter Try.func26, Try.ntmps26
  go_wp2_with (first | (go_at_call 56; refine (right_any _ _ _ _ _).mono ?_; rintro e w1 ⟨rfl, rfl⟩) | (go_at_call 43; go_in))
  refine bodyPost_ret (v := .tuple #[S1.sval a b c d, .bool false]) (by simp [results, Try.results43, go_sem]) rfl ?_
  go_wp2
  exact bodyPost_ret (v := .tuple #[S1.sval a b c d, .bool false]) (by simp [results, Try.results26, go_sem]) rfl ⟨rfl, by repeat (first | (with_reducible first | exact HB.out | apply below_alloc) | refine below_set ?_ (by omega))⟩

set_option maxHeartbeats 1000000 in
theorem want_low (a b c d v q : Int) (w : World) (h : right ⟨a, b, c, d⟩ = true) (h1 : decide (v < 0) = true) : Calls Try.prog 26 #[S1.sval a b c d, .int .i64 v, .int .i64 q] w fun e w' => e = .returned (.tuple #[S1.sval a b c d, .bool false]) ∧ Below w.heap.size w w' := by
  have HB := Aside0.mk (Below.refl w.heap.size w)
  go_enter Try.func26, Try.ntmps26
  go_wp2_with (first | (go_at_call 56; refine (right_any _ _ _ _ _).mono ?_; rintro e w1 ⟨rfl, rfl⟩) | (go_at_call 43; go_in))
  refine (of_low a b c d _ _ _ _ ?hs h1).mono ?_
  case hs => repeat (first | ((refine isSlot_at _ _ _ _ ?_); (simp; done)) | apply IsSlot.alloc)
  rintro e w1 ⟨rfl, hS, hg⟩
  obtain ⟨gc, gf⟩ := gcell hg
  have c0 := blk_cell hS 0
  have c1 := blk_cell hS 1
  have c2 := blk_cell hS 2
  have c3 := blk_cell hS 3
  simp only [List.getElem?_toArray, List.getElem?_cons_zero, List.getElem?_cons_succ] at c0 c1 c2 c3
  have n0 := Aside0.mk (below_by (by repeat (with_reducible first | exact HB.out | apply below_alloc)) hg (by omega))
  clear HB hg hS
  go_wp2
  refine bodyPost_ret (v := .tuple #[S1.sval a b c d, .bool false]) (by simp [results, Try.results43, go_sem, gc, gf]) rfl ?_
  go_wp2
  exact bodyPost_ret (v := .tuple #[S1.sval a b c d, .bool false]) (by simp [results, Try.results26, go_sem, gc, gf]) rfl ⟨rfl, by repeat (first | (with_reducible first | exact n0.out | apply below_alloc) | refine below_set ?_ (by omega))⟩

set_option maxHeartbeats 1000000 in
theorem want_old (a b c d v q : Int) (w : World) (h : right ⟨a, b, c, d⟩ = true) (h1 : decide (v < 0) = false) (h2 : decide (q ≤ d) = true) : Calls Try.prog 26 #[S1.sval a b c d, .int .i64 v, .int .i64 q] w fun e w' => e = .returned (.tuple #[S1.sval a b c d, .bool false]) ∧ Below w.heap.size w w' := by
  have HB := Aside0.mk (Below.refl w.heap.size w)
  go_enter Try.func26, Try.ntmps26
  go_wp2_with (first | (go_at_call 56; refine (right_any _ _ _ _ _).mono ?_; rintro e w1 ⟨rfl, rfl⟩) | (go_at_call 43; go_in))
  refine (of_old a b c d _ _ _ _ ?hs h1 h2).mono ?_
  case hs => repeat (first | ((refine isSlot_at _ _ _ _ ?_); (simp; done)) | apply IsSlot.alloc)
  rintro e w1 ⟨rfl, hS, hg⟩
  obtain ⟨gc, gf⟩ := gcell hg
  have c0 := blk_cell hS 0
  have c1 := blk_cell hS 1
  have c2 := blk_cell hS 2
  have c3 := blk_cell hS 3
  simp only [List.getElem?_toArray, List.getElem?_cons_zero, List.getElem?_cons_succ] at c0 c1 c2 c3
  have n0 := Aside0.mk (below_by (by repeat (with_reducible first | exact HB.out | apply below_alloc)) hg (by omega))
  clear HB hg hS
  go_wp2
  refine bodyPost_ret (v := .tuple #[S1.sval a b c d, .bool false]) (by simp [results, Try.results43, go_sem, gc, gf]) rfl ?_
  go_wp2
  exact bodyPost_ret (v := .tuple #[S1.sval a b c d, .bool false]) (by simp [results, Try.results26, go_sem, gc, gf]) rfl ⟨rfl, by repeat (first | (with_reducible first | exact n0.out | apply below_alloc) | refine below_set ?_ (by omega))⟩

set_option maxHeartbeats 1000000 in
theorem want_off (a b c d v q : Int) (w : World) (h : right ⟨a, b, c, d⟩ = true) (h1 : decide (v < 0) = false) (h2 : decide (q ≤ d) = false) (h3 : (a != 0) = false) : Calls Try.prog 26 #[S1.sval a b c d, .int .i64 v, .int .i64 q] w fun e w' => e = .returned (.tuple #[S1.sval a b v q, .bool true]) ∧ Below w.heap.size w w' := by
  have HB := Aside0.mk (Below.refl w.heap.size w)
  go_enter Try.func26, Try.ntmps26
  go_wp2_with (first | (go_at_call 56; refine (right_any _ _ _ _ _).mono ?_; rintro e w1 ⟨rfl, rfl⟩) | (go_at_call 43; go_in))
  refine (of_off a b c d _ _ _ _ ?hs h1 h2 h3).mono ?_
  case hs => repeat (first | ((refine isSlot_at _ _ _ _ ?_); (simp; done)) | apply IsSlot.alloc)
  rintro e w1 ⟨rfl, hS, hg⟩
  obtain ⟨gc, gf⟩ := gcell hg
  have c0 := blk_cell hS 0
  have c1 := blk_cell hS 1
  have c2 := blk_cell hS 2
  have c3 := blk_cell hS 3
  simp only [List.getElem?_toArray, List.getElem?_cons_zero, List.getElem?_cons_succ] at c0 c1 c2 c3
  have n0 := Aside0.mk (below_by (by repeat (with_reducible first | exact HB.out | apply below_alloc)) hg (by omega))
  clear HB hg hS
  go_wp2
  refine bodyPost_ret (v := .tuple #[S1.sval a b v q, .bool true]) (by simp [results, Try.results43, go_sem, gc, gf]) rfl ?_
  go_wp2
  exact bodyPost_ret (v := .tuple #[S1.sval a b v q, .bool true]) (by simp [results, Try.results26, go_sem, gc, gf]) rfl ⟨rfl, by repeat (first | (with_reducible first | exact n0.out | apply below_alloc) | refine below_set ?_ (by omega))⟩

set_option maxHeartbeats 1000000 in
theorem want_same (a b c d v q : Int) (w : World) (h : right ⟨a, b, c, d⟩ = true) (h1 : decide (v < 0) = false) (h2 : decide (q ≤ d) = false) (h3 : (a != 0) = true) (h4 : (b != v) = false) : Calls Try.prog 26 #[S1.sval a b c d, .int .i64 v, .int .i64 q] w fun e w' => e = .returned (.tuple #[S1.sval a b v q, .bool true]) ∧ Below w.heap.size w w' := by
  have HB := Aside0.mk (Below.refl w.heap.size w)
  go_enter Try.func26, Try.ntmps26
  go_wp2_with (first | (go_at_call 56; refine (right_any _ _ _ _ _).mono ?_; rintro e w1 ⟨rfl, rfl⟩) | (go_at_call 43; go_in))
  refine (of_same a b c d _ _ _ _ ?hs h1 h2 h3 h4).mono ?_
  case hs => repeat (first | ((refine isSlot_at _ _ _ _ ?_); (simp; done)) | apply IsSlot.alloc)
  rintro e w1 ⟨rfl, hS, hg⟩
  obtain ⟨gc, gf⟩ := gcell hg
  have c0 := blk_cell hS 0
  have c1 := blk_cell hS 1
  have c2 := blk_cell hS 2
  have c3 := blk_cell hS 3
  simp only [List.getElem?_toArray, List.getElem?_cons_zero, List.getElem?_cons_succ] at c0 c1 c2 c3
  have n0 := Aside0.mk (below_by (by repeat (with_reducible first | exact HB.out | apply below_alloc)) hg (by omega))
  clear HB hg hS
  go_wp2
  refine bodyPost_ret (v := .tuple #[S1.sval a b v q, .bool true]) (by simp [results, Try.results43, go_sem, gc, gf]) rfl ?_
  go_wp2
  exact bodyPost_ret (v := .tuple #[S1.sval a b v q, .bool true]) (by simp [results, Try.results26, go_sem, gc, gf]) rfl ⟨rfl, by repeat (first | (with_reducible first | exact n0.out | apply below_alloc) | refine below_set ?_ (by omega))⟩

set_option maxHeartbeats 1000000 in
theorem want_other (a b c d v q : Int) (w : World) (h : right ⟨a, b, c, d⟩ = true) (h1 : decide (v < 0) = false) (h2 : decide (q ≤ d) = false) (h3 : (a != 0) = true) (h4 : (b != v) = true) : Calls Try.prog 26 #[S1.sval a b c d, .int .i64 v, .int .i64 q] w fun e w' => e = .returned (.tuple #[S1.sval 4 b v q, .bool true]) ∧ Below w.heap.size w w' := by
  have HB := Aside0.mk (Below.refl w.heap.size w)
  go_enter Try.func26, Try.ntmps26
  go_wp2_with (first | (go_at_call 56; refine (right_any _ _ _ _ _).mono ?_; rintro e w1 ⟨rfl, rfl⟩) | (go_at_call 43; go_in))
  refine (of_other a b c d _ _ _ _ ?hs h1 h2 h3 h4).mono ?_
  case hs => repeat (first | ((refine isSlot_at _ _ _ _ ?_); (simp; done)) | apply IsSlot.alloc)
  rintro e w1 ⟨rfl, hS, hg⟩
  obtain ⟨gc, gf⟩ := gcell hg
  have c0 := blk_cell hS 0
  have c1 := blk_cell hS 1
  have c2 := blk_cell hS 2
  have c3 := blk_cell hS 3
  simp only [List.getElem?_toArray, List.getElem?_cons_zero, List.getElem?_cons_succ] at c0 c1 c2 c3
  have n0 := Aside0.mk (below_by (by repeat (with_reducible first | exact HB.out | apply below_alloc)) hg (by omega))
  clear HB hg hS
  go_wp2
  refine bodyPost_ret (v := .tuple #[S1.sval 4 b v q, .bool true]) (by simp [results, Try.results43, go_sem, gc, gf]) rfl ?_
  go_wp2
  exact bodyPost_ret (v := .tuple #[S1.sval 4 b v q, .bool true]) (by simp [results, Try.results26, go_sem, gc, gf]) rfl ⟨rfl, by repeat (first | (with_reducible first | exact n0.out | apply below_alloc) | refine below_set ?_ (by omega))⟩

set_option maxHeartbeats 1000000 in
theorem go_not (a b c d : Int) (w : World) (h : right ⟨a, b, c, d⟩ = false) : Calls Try.prog 36 #[S1.sval a b c d] w fun e w' => e = .returned (.tuple #[S1.sval a b c d, .bool false]) ∧ Below w.heap.size w w' := by
  have HB := Aside0.mk (Below.refl w.heap.size w)
  go_enter Try.func36, Try.ntmps36
  go_wp2_with (first | (go_at_call 56; refine (right_any _ _ _ _ _).mono ?_; rintro e w1 ⟨rfl, rfl⟩) | (go_at_call 43; go_in))
  refine bodyPost_ret (v := .tuple #[S1.sval a b c d, .bool false]) (by simp [results, Try.results43, go_sem]) rfl ?_
  go_wp2
  exact bodyPost_ret (v := .tuple #[S1.sval a b c d, .bool false]) (by simp [results, Try.results36, go_sem]) rfl ⟨rfl, by repeat (first | (with_reducible first | exact HB.out | apply below_alloc) | refine below_set ?_ (by omega))⟩

set_option maxHeartbeats 1000000 in
theorem go_idle (a b c d : Int) (w : World) (h : right ⟨a, b, c, d⟩ = true) (h1 : (a == 0) = true) (h2 : decide (0 < c) = false) (h3 : (a == 1) = false) (h4 : (a == 4) = false) : Calls Try.prog 36 #[S1.sval a b c d] w fun e w' => e = .returned (.tuple #[S1.sval a b c d, .bool false]) ∧ Below w.heap.size w w' := by
  have HB := Aside0.mk (Below.refl w.heap.size w)
  go_enter Try.func36, Try.ntmps36
  go_wp2_with (first | (go_at_call 56; refine (right_any _ _ _ _ _).mono ?_; rintro e w1 ⟨rfl, rfl⟩) | (go_at_call 43; go_in))
  refine (on_idle a b c d _ _ ?hs h1 h2 h3 h4).mono ?_
  case hs => repeat (first | ((refine isSlot_at _ _ _ _ ?_); (simp; done)) | apply IsSlot.alloc)
  rintro e w1 ⟨rfl, hS, hg⟩
  obtain ⟨gc, gf⟩ := gcell hg
  have c0 := blk_cell hS 0
  have c1 := blk_cell hS 1
  have c2 := blk_cell hS 2
  have c3 := blk_cell hS 3
  simp only [List.getElem?_toArray, List.getElem?_cons_zero, List.getElem?_cons_succ] at c0 c1 c2 c3
  have n0 := Aside0.mk (below_by (by repeat (with_reducible first | exact HB.out | apply below_alloc)) hg (by omega))
  clear HB hg hS
  go_wp2
  refine bodyPost_ret (v := .tuple #[S1.sval a b c d, .bool false]) (by simp [results, Try.results43, go_sem, gc, gf]) rfl ?_
  go_wp2
  exact bodyPost_ret (v := .tuple #[S1.sval a b c d, .bool false]) (by simp [results, Try.results36, go_sem, gc, gf]) rfl ⟨rfl, by repeat (first | (with_reducible first | exact n0.out | apply below_alloc) | refine below_set ?_ (by omega))⟩

set_option maxHeartbeats 1000000 in
theorem go_start (a b c d : Int) (w : World) (h : right ⟨a, b, c, d⟩ = true) (h1 : (a == 0) = true) (h2 : decide (0 < c) = true) : Calls Try.prog 36 #[S1.sval a b c d] w fun e w' => e = .returned (.tuple #[S1.sval 1 c c d, .bool true]) ∧ Below w.heap.size w w' := by
  have HB := Aside0.mk (Below.refl w.heap.size w)
  go_enter Try.func36, Try.ntmps36
  go_wp2_with (first | (go_at_call 56; refine (right_any _ _ _ _ _).mono ?_; rintro e w1 ⟨rfl, rfl⟩) | (go_at_call 43; go_in))
  refine (on_start a b c d _ _ ?hs h1 h2).mono ?_
  case hs => repeat (first | ((refine isSlot_at _ _ _ _ ?_); (simp; done)) | apply IsSlot.alloc)
  rintro e w1 ⟨rfl, hS, hg⟩
  obtain ⟨gc, gf⟩ := gcell hg
  have c0 := blk_cell hS 0
  have c1 := blk_cell hS 1
  have c2 := blk_cell hS 2
  have c3 := blk_cell hS 3
  simp only [List.getElem?_toArray, List.getElem?_cons_zero, List.getElem?_cons_succ] at c0 c1 c2 c3
  have n0 := Aside0.mk (below_by (by repeat (with_reducible first | exact HB.out | apply below_alloc)) hg (by omega))
  clear HB hg hS
  go_wp2
  refine bodyPost_ret (v := .tuple #[S1.sval 1 c c d, .bool true]) (by simp [results, Try.results43, go_sem, gc, gf]) rfl ?_
  go_wp2
  exact bodyPost_ret (v := .tuple #[S1.sval 1 c c d, .bool true]) (by simp [results, Try.results36, go_sem, gc, gf]) rfl ⟨rfl, by repeat (first | (with_reducible first | exact n0.out | apply below_alloc) | refine below_set ?_ (by omega))⟩

set_option maxHeartbeats 1000000 in
theorem go_ready (a b c d : Int) (w : World) (h : right ⟨a, b, c, d⟩ = true) (h1 : (a == 0) = false) (h3 : (a == 1) = true) : Calls Try.prog 36 #[S1.sval a b c d] w fun e w' => e = .returned (.tuple #[S1.sval 2 b c d, .bool true]) ∧ Below w.heap.size w w' := by
  have HB := Aside0.mk (Below.refl w.heap.size w)
  go_enter Try.func36, Try.ntmps36
  go_wp2_with (first | (go_at_call 56; refine (right_any _ _ _ _ _).mono ?_; rintro e w1 ⟨rfl, rfl⟩) | (go_at_call 43; go_in))
  refine (on_ready a b c d _ _ ?hs h1 h3).mono ?_
  case hs => repeat (first | ((refine isSlot_at _ _ _ _ ?_); (simp; done)) | apply IsSlot.alloc)
  rintro e w1 ⟨rfl, hS, hg⟩
  obtain ⟨gc, gf⟩ := gcell hg
  have c0 := blk_cell hS 0
  have c1 := blk_cell hS 1
  have c2 := blk_cell hS 2
  have c3 := blk_cell hS 3
  simp only [List.getElem?_toArray, List.getElem?_cons_zero, List.getElem?_cons_succ] at c0 c1 c2 c3
  have n0 := Aside0.mk (below_by (by repeat (with_reducible first | exact HB.out | apply below_alloc)) hg (by omega))
  clear HB hg hS
  go_wp2
  refine bodyPost_ret (v := .tuple #[S1.sval 2 b c d, .bool true]) (by simp [results, Try.results43, go_sem, gc, gf]) rfl ?_
  go_wp2
  exact bodyPost_ret (v := .tuple #[S1.sval 2 b c d, .bool true]) (by simp [results, Try.results36, go_sem, gc, gf]) rfl ⟨rfl, by repeat (first | (with_reducible first | exact n0.out | apply below_alloc) | refine below_set ?_ (by omega))⟩

set_option maxHeartbeats 1000000 in
theorem go_stop (a b c d : Int) (w : World) (h : right ⟨a, b, c, d⟩ = true) (h1 : (a == 0) = false) (h3 : (a == 1) = false) (h4 : (a == 4) = true) (h5 : (a != 0) = true) : Calls Try.prog 36 #[S1.sval a b c d] w fun e w' => e = .returned (.tuple #[S1.sval 0 0 c d, .bool true]) ∧ Below w.heap.size w w' := by
  have HB := Aside0.mk (Below.refl w.heap.size w)
  go_enter Try.func36, Try.ntmps36
  go_wp2_with (first | (go_at_call 56; refine (right_any _ _ _ _ _).mono ?_; rintro e w1 ⟨rfl, rfl⟩) | (go_at_call 43; go_in))
  refine (on_stop a b c d _ _ ?hs h1 h3 h4 h5).mono ?_
  case hs => repeat (first | ((refine isSlot_at _ _ _ _ ?_); (simp; done)) | apply IsSlot.alloc)
  rintro e w1 ⟨rfl, hS, hg⟩
  obtain ⟨gc, gf⟩ := gcell hg
  have c0 := blk_cell hS 0
  have c1 := blk_cell hS 1
  have c2 := blk_cell hS 2
  have c3 := blk_cell hS 3
  simp only [List.getElem?_toArray, List.getElem?_cons_zero, List.getElem?_cons_succ] at c0 c1 c2 c3
  have n0 := Aside0.mk (below_by (by repeat (with_reducible first | exact HB.out | apply below_alloc)) hg (by omega))
  clear HB hg hS
  go_wp2
  refine bodyPost_ret (v := .tuple #[S1.sval 0 0 c d, .bool true]) (by simp [results, Try.results43, go_sem, gc, gf]) rfl ?_
  go_wp2
  exact bodyPost_ret (v := .tuple #[S1.sval 0 0 c d, .bool true]) (by simp [results, Try.results36, go_sem, gc, gf]) rfl ⟨rfl, by repeat (first | (with_reducible first | exact n0.out | apply below_alloc) | refine below_set ?_ (by omega))⟩

set_option maxHeartbeats 1000000 in
theorem go_none (a b c d : Int) (w : World) (h : right ⟨a, b, c, d⟩ = true) (h1 : (a == 0) = false) (h3 : (a == 1) = false) (h4 : (a == 4) = false) : Calls Try.prog 36 #[S1.sval a b c d] w fun e w' => e = .returned (.tuple #[S1.sval a b c d, .bool false]) ∧ Below w.heap.size w w' := by
  have HB := Aside0.mk (Below.refl w.heap.size w)
  go_enter Try.func36, Try.ntmps36
  go_wp2_with (first | (go_at_call 56; refine (right_any _ _ _ _ _).mono ?_; rintro e w1 ⟨rfl, rfl⟩) | (go_at_call 43; go_in))
  refine (on_none a b c d _ _ ?hs h1 h3 h4).mono ?_
  case hs => repeat (first | ((refine isSlot_at _ _ _ _ ?_); (simp; done)) | apply IsSlot.alloc)
  rintro e w1 ⟨rfl, hS, hg⟩
  obtain ⟨gc, gf⟩ := gcell hg
  have c0 := blk_cell hS 0
  have c1 := blk_cell hS 1
  have c2 := blk_cell hS 2
  have c3 := blk_cell hS 3
  simp only [List.getElem?_toArray, List.getElem?_cons_zero, List.getElem?_cons_succ] at c0 c1 c2 c3
  have n0 := Aside0.mk (below_by (by repeat (with_reducible first | exact HB.out | apply below_alloc)) hg (by omega))
  clear HB hg hS
  go_wp2
  refine bodyPost_ret (v := .tuple #[S1.sval a b c d, .bool false]) (by simp [results, Try.results43, go_sem, gc, gf]) rfl ?_
  go_wp2
  exact bodyPost_ret (v := .tuple #[S1.sval a b c d, .bool false]) (by simp [results, Try.results36, go_sem, gc, gf]) rfl ⟨rfl, by repeat (first | (with_reducible first | exact n0.out | apply below_alloc) | refine below_set ?_ (by omega))⟩

set_option maxHeartbeats 1000000 in
theorem hurt_not (a b c d : Int) (w : World) (h : right ⟨a, b, c, d⟩ = false) : Calls Try.prog 41 #[S1.sval a b c d] w fun e w' => e = .returned (.tuple #[S1.sval a b c d, .bool false]) ∧ Below w.heap.size w w' := by
  have HB := Aside0.mk (Below.refl w.heap.size w)
  go_enter Try.func41, Try.ntmps41
  go_wp2_with (first | (go_at_call 56; refine (right_any _ _ _ _ _).mono ?_; rintro e w1 ⟨rfl, rfl⟩) | (go_at_call 43; go_in))
  refine bodyPost_ret (v := .tuple #[S1.sval a b c d, .bool false]) (by simp [results, Try.results43, go_sem]) rfl ?_
  go_wp2
  exact bodyPost_ret (v := .tuple #[S1.sval a b c d, .bool false]) (by simp [results, Try.results41, go_sem]) rfl ⟨rfl, by repeat (first | (with_reducible first | exact HB.out | apply below_alloc) | refine below_set ?_ (by omega))⟩

set_option maxHeartbeats 1000000 in
theorem hurt_yes (a b c d : Int) (w : World) (h : right ⟨a, b, c, d⟩ = true) (h1 : (a != 2) = false) : Calls Try.prog 41 #[S1.sval a b c d] w fun e w' => e = .returned (.tuple #[S1.sval 3 b c d, .bool true]) ∧ Below w.heap.size w w' := by
  have HB := Aside0.mk (Below.refl w.heap.size w)
  go_enter Try.func41, Try.ntmps41
  go_wp2_with (first | (go_at_call 56; refine (right_any _ _ _ _ _).mono ?_; rintro e w1 ⟨rfl, rfl⟩) | (go_at_call 43; go_in))
  refine (turn_yes a b c d _ _ _ _ ?hs h1).mono ?_
  case hs => repeat (first | ((refine isSlot_at _ _ _ _ ?_); (simp; done)) | apply IsSlot.alloc)
  rintro e w1 ⟨rfl, hS, hg⟩
  obtain ⟨gc, gf⟩ := gcell hg
  have c0 := blk_cell hS 0
  have c1 := blk_cell hS 1
  have c2 := blk_cell hS 2
  have c3 := blk_cell hS 3
  simp only [List.getElem?_toArray, List.getElem?_cons_zero, List.getElem?_cons_succ] at c0 c1 c2 c3
  have n0 := Aside0.mk (below_by (by repeat (with_reducible first | exact HB.out | apply below_alloc)) hg (by omega))
  clear HB hg hS
  go_wp2
  refine bodyPost_ret (v := .tuple #[S1.sval 3 b c d, .bool true]) (by simp [results, Try.results43, go_sem, gc, gf]) rfl ?_
  go_wp2
  exact bodyPost_ret (v := .tuple #[S1.sval 3 b c d, .bool true]) (by simp [results, Try.results41, go_sem, gc, gf]) rfl ⟨rfl, by repeat (first | (with_reducible first | exact n0.out | apply below_alloc) | refine below_set ?_ (by omega))⟩

set_option maxHeartbeats 1000000 in
theorem hurt_no (a b c d : Int) (w : World) (h : right ⟨a, b, c, d⟩ = true) (h1 : (a != 2) = true) : Calls Try.prog 41 #[S1.sval a b c d] w fun e w' => e = .returned (.tuple #[S1.sval a b c d, .bool false]) ∧ Below w.heap.size w w' := by
  have HB := Aside0.mk (Below.refl w.heap.size w)
  go_enter Try.func41, Try.ntmps41
  go_wp2_with (first | (go_at_call 56; refine (right_any _ _ _ _ _).mono ?_; rintro e w1 ⟨rfl, rfl⟩) | (go_at_call 43; go_in))
  refine (turn_no a b c d _ _ _ _ ?hs h1).mono ?_
  case hs => repeat (first | ((refine isSlot_at _ _ _ _ ?_); (simp; done)) | apply IsSlot.alloc)
  rintro e w1 ⟨rfl, hS, hg⟩
  obtain ⟨gc, gf⟩ := gcell hg
  have c0 := blk_cell hS 0
  have c1 := blk_cell hS 1
  have c2 := blk_cell hS 2
  have c3 := blk_cell hS 3
  simp only [List.getElem?_toArray, List.getElem?_cons_zero, List.getElem?_cons_succ] at c0 c1 c2 c3
  have n0 := Aside0.mk (below_by (by repeat (with_reducible first | exact HB.out | apply below_alloc)) hg (by omega))
  clear HB hg hS
  go_wp2
  refine bodyPost_ret (v := .tuple #[S1.sval a b c d, .bool false]) (by simp [results, Try.results43, go_sem, gc, gf]) rfl ?_
  go_wp2
  exact bodyPost_ret (v := .tuple #[S1.sval a b c d, .bool false]) (by simp [results, Try.results41, go_sem, gc, gf]) rfl ⟨rfl, by repeat (first | (with_reducible first | exact n0.out | apply below_alloc) | refine below_set ?_ (by omega))⟩

set_option maxHeartbeats 1000000 in
theorem heal_not (a b c d : Int) (w : World) (h : right ⟨a, b, c, d⟩ = false) : Calls Try.prog 42 #[S1.sval a b c d] w fun e w' => e = .returned (.tuple #[S1.sval a b c d, .bool false]) ∧ Below w.heap.size w w' := by
  have HB := Aside0.mk (Below.refl w.heap.size w)
  go_enter Try.func42, Try.ntmps42
  go_wp2_with (first | (go_at_call 56; refine (right_any _ _ _ _ _).mono ?_; rintro e w1 ⟨rfl, rfl⟩) | (go_at_call 43; go_in))
  refine bodyPost_ret (v := .tuple #[S1.sval a b c d, .bool false]) (by simp [results, Try.results43, go_sem]) rfl ?_
  go_wp2
  exact bodyPost_ret (v := .tuple #[S1.sval a b c d, .bool false]) (by simp [results, Try.results42, go_sem]) rfl ⟨rfl, by repeat (first | (with_reducible first | exact HB.out | apply below_alloc) | refine below_set ?_ (by omega))⟩

set_option maxHeartbeats 1000000 in
theorem heal_yes (a b c d : Int) (w : World) (h : right ⟨a, b, c, d⟩ = true) (h1 : (a != 3) = false) : Calls Try.prog 42 #[S1.sval a b c d] w fun e w' => e = .returned (.tuple #[S1.sval 2 b c d, .bool true]) ∧ Below w.heap.size w w' := by
  have HB := Aside0.mk (Below.refl w.heap.size w)
  go_enter Try.func42, Try.ntmps42
  go_wp2_with (first | (go_at_call 56; refine (right_any _ _ _ _ _).mono ?_; rintro e w1 ⟨rfl, rfl⟩) | (go_at_call 43; go_in))
  refine (turn_yes a b c d _ _ _ _ ?hs h1).mono ?_
  case hs => repeat (first | ((refine isSlot_at _ _ _ _ ?_); (simp; done)) | apply IsSlot.alloc)
  rintro e w1 ⟨rfl, hS, hg⟩
  obtain ⟨gc, gf⟩ := gcell hg
  have c0 := blk_cell hS 0
  have c1 := blk_cell hS 1
  have c2 := blk_cell hS 2
  have c3 := blk_cell hS 3
  simp only [List.getElem?_toArray, List.getElem?_cons_zero, List.getElem?_cons_succ] at c0 c1 c2 c3
  have n0 := Aside0.mk (below_by (by repeat (with_reducible first | exact HB.out | apply below_alloc)) hg (by omega))
  clear HB hg hS
  go_wp2
  refine bodyPost_ret (v := .tuple #[S1.sval 2 b c d, .bool true]) (by simp [results, Try.results43, go_sem, gc, gf]) rfl ?_
  go_wp2
  exact bodyPost_ret (v := .tuple #[S1.sval 2 b c d, .bool true]) (by simp [results, Try.results42, go_sem, gc, gf]) rfl ⟨rfl, by repeat (first | (with_reducible first | exact n0.out | apply below_alloc) | refine below_set ?_ (by omega))⟩

set_option maxHeartbeats 1000000 in
theorem heal_no (a b c d : Int) (w : World) (h : right ⟨a, b, c, d⟩ = true) (h1 : (a != 3) = true) : Calls Try.prog 42 #[S1.sval a b c d] w fun e w' => e = .returned (.tuple #[S1.sval a b c d, .bool false]) ∧ Below w.heap.size w w' := by
  have HB := Aside0.mk (Below.refl w.heap.size w)
  go_enter Try.func42, Try.ntmps42
  go_wp2_with (first | (go_at_call 56; refine (right_any _ _ _ _ _).mono ?_; rintro e w1 ⟨rfl, rfl⟩) | (go_at_call 43; go_in))
  refine (turn_no a b c d _ _ _ _ ?hs h1).mono ?_
  case hs => repeat (first | ((refine isSlot_at _ _ _ _ ?_); (simp; done)) | apply IsSlot.alloc)
  rintro e w1 ⟨rfl, hS, hg⟩
  obtain ⟨gc, gf⟩ := gcell hg
  have c0 := blk_cell hS 0
  have c1 := blk_cell hS 1
  have c2 := blk_cell hS 2
  have c3 := blk_cell hS 3
  simp only [List.getElem?_toArray, List.getElem?_cons_zero, List.getElem?_cons_succ] at c0 c1 c2 c3
  have n0 := Aside0.mk (below_by (by repeat (with_reducible first | exact HB.out | apply below_alloc)) hg (by omega))
  clear HB hg hS
  go_wp2
  refine bodyPost_ret (v := .tuple #[S1.sval a b c d, .bool false]) (by simp [results, Try.results43, go_sem, gc, gf]) rfl ?_
  go_wp2
  exact bodyPost_ret (v := .tuple #[S1.sval a b c d, .bool false]) (by simp [results, Try.results42, go_sem, gc, gf]) rfl ⟨rfl, by repeat (first | (with_reducible first | exact n0.out | apply below_alloc) | refine below_set ?_ (by omega))⟩

set_option maxHeartbeats 1000000 in
theorem fall_not (a b c d : Int) (w : World) (h : right ⟨a, b, c, d⟩ = false) : Calls Try.prog 35 #[S1.sval a b c d] w fun e w' => e = .returned (.tuple #[S1.sval a b c d, .bool false]) ∧ Below w.heap.size w w' := by
  have HB := Aside0.mk (Below.refl w.heap.size w)
  go_enter Try.func35, Try.ntmps35
  go_wp2_with (first | (go_at_call 56; refine (right_any _ _ _ _ _).mono ?_; rintro e w1 ⟨rfl, rfl⟩) | (go_at_call 43; go_in))
  refine bodyPost_ret (v := .tuple #[S1.sval a b c d, .bool false]) (by simp [results, Try.results43, go_sem]) rfl ?_
  go_wp2
  exact bodyPost_ret (v := .tuple #[S1.sval a b c d, .bool false]) (by simp [results, Try.results35, go_sem]) rfl ⟨rfl, by repeat (first | (with_reducible first | exact HB.out | apply below_alloc) | refine below_set ?_ (by omega))⟩

set_option maxHeartbeats 1000000 in
theorem fall_yes (a b c d : Int) (w : World) (h : right ⟨a, b, c, d⟩ = true) : Calls Try.prog 35 #[S1.sval a b c d] w fun e w' => e = .returned (.tuple #[S1.sval 0 0 c d, .bool (a != 0)]) ∧ Below w.heap.size w w' := by
  have HB := Aside0.mk (Below.refl w.heap.size w)
  go_enter Try.func35, Try.ntmps35
  go_wp2_with (first | (go_at_call 56; refine (right_any _ _ _ _ _).mono ?_; rintro e w1 ⟨rfl, rfl⟩) | (go_at_call 43; go_in))
  refine (stop_any a b c d _ _ ?hs).mono ?_
  case hs => repeat (first | ((refine isSlot_at _ _ _ _ ?_); (simp; done)) | apply IsSlot.alloc)
  rintro e w1 ⟨rfl, hS, hg⟩
  obtain ⟨gc, gf⟩ := gcell hg
  have c0 := blk_cell hS 0
  have c1 := blk_cell hS 1
  have c2 := blk_cell hS 2
  have c3 := blk_cell hS 3
  simp only [List.getElem?_toArray, List.getElem?_cons_zero, List.getElem?_cons_succ] at c0 c1 c2 c3
  have n0 := Aside0.mk (below_by (by repeat (with_reducible first | exact HB.out | apply below_alloc)) hg (by omega))
  clear HB hg hS
  go_wp2
  refine bodyPost_ret (v := .tuple #[S1.sval 0 0 c d, .bool (a != 0)]) (by simp [results, Try.results43, go_sem, gc, gf]) rfl ?_
  go_wp2
  exact bodyPost_ret (v := .tuple #[S1.sval 0 0 c d, .bool (a != 0)]) (by simp [results, Try.results35, go_sem, gc, gf]) rfl ⟨rfl, by repeat (first | (with_reducible first | exact n0.out | apply below_alloc) | refine below_set ?_ (by omega))⟩
end Go.Proofs.Ytkjaeodnpgpfeaa.S3
