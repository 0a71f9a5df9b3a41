/-
  Proved here: the example of the law package answers true. No condition.
-/
import Derived.Test.YtnjmhiglpapopaaL3
namespace Go.Proofs.Ytnjmhiglpapopaa.L4
open Go.RowKit Go.Proofs.Ytnjmhiglpapopaa.M Go.Proofs.Ytnjmhiglpapopaa.L0 Go.Proofs.Ytnjmhiglpapopaa.L1 Go.Proofs.Ytnjmhiglpapopaa.L2 Go.Proofs.Ytnjmhiglpapopaa.L3 Go.Proofs.YtnjmhiglpapopaaW.PrintWords Go.Proofs.YtnjmhiglpapopaaW.PrintLast Go.Proofs.YtnjmhiglpapopaaW.PrintMore
set_option linter.unusedVariables false
set_option linter.unusedSimpArgs false
attribute [local go_sem] max2_int min2_int max_two min_two run_makeMap lv field40

theorem new_e (n : Int) (w : World) : Calls Try.prog 9 #[.int .i64 n] w fun e w' => ∃ b q : Nat, e = .returned (.pointer (some ⟨b, 0, none⟩)) ∧ Tab w' b q (cut n) (fun _ => none) ∧ Below w.heap.size w w' ∧ w.heap.size ≤ q ∧ w.heap.size ≤ b :=
  (new_q n w).mono fun e w' ⟨h1, h2, h3, h4⟩ => ⟨_, _, h1, h2, h3, Nat.le_refl _, Nat.le_succ _⟩
theorem below_turn {a w w1 : World} {q : Nat} (h : Below a.heap.size a w) (hg : w.grownBy w1 (some q)) (hq : a.heap.size ≤ q) : Below a.heap.size a w1 := h.grown hg h.size (fun k hk => by cases hk; exact hq)
theorem free_upd (g : ByteArray → Option Le) (n : ByteArray) (l : Le) (m now : Int) : free (upd g n l) m n now = ((l.u == 0) || decide (now ≥ late l.u m)) := by simp [free, upd]
theorem holds_upd (g : ByteArray → Option Le) (n : ByteArray) (l : Le) (a c now : Int) : holds (upd g n l) n a c now = ((l.h == a) && (l.e == c) && decide (l.u > 0) && decide (now < l.u)) := by simp [holds, upd]
theorem upd_at (g : ByteArray → Option Le) (n : ByteArray) (l : Le) : upd g n l n = some l := by simp [upd]
abbrev xs : ByteArray := { data := #[120] }

set_option maxHeartbeats 1000000 in
theorem lives_q (w : World) : Calls Try.prog 8 #[] w fun e w' => e = .returned (.bool true) ∧ Below w.heap.size w w' := by
  have HB := Aside0.mk (Below.refl w.heap.size w)
  go_enter Try.func8, Try.ntmps8
  go_wp2_with fail
  refine (new_e 5 _).mono ?_
  rintro e w1 ⟨b, q, rfl, hT, hb1, hq, hbq⟩
  have hq : w.heap.size ≤ q := Nat.le_trans (Below.size (by repeat (first | (with_reducible first | exact HB.out | apply below_alloc | apply pw_below_drewN | apply below_drew1) | refine below_set ?_ (by omega)))) hq
  have hbq : w.heap.size ≤ b := Nat.le_trans (Below.size (by repeat (first | (with_reducible first | exact HB.out | apply below_alloc | apply pw_below_drewN | apply below_drew1) | refine below_set ?_ (by omega)))) hbq
  have n0 := Aside0.mk (below_step (by repeat (first | (with_reducible first | exact HB.out | apply below_alloc | apply pw_below_drewN | apply below_drew1) | refine below_set ?_ (by omega))) hb1)
  have T := Aside0.mk hT
  clear HB hb1 hT
  have HB := n0
  clear n0
  go_wp2_with fail
  refine (take_ok b q (cut 5) (fun _ => none) xs 1 0 10 _ ?hT (by kernel_rfl) (by rfl) 1 (by kernel_rfl)).mono ?_
  case hT => repeat (with_reducible first | exact T.out | apply Tab.alloc | apply Tab.drewN)
  rintro e w2 ⟨rfl, hT, hb1⟩
  have n0 := Aside0.mk (below_turn (by repeat (first | (with_reducible first | exact HB.out | apply below_alloc | apply pw_below_drewN | apply below_drew1) | refine below_set ?_ (by omega))) hb1 hq)
  have nT := Aside0.mk hT
  clear HB hb1 T hT
  have HB := n0
  have T := nT
  clear n0 nT
  go_wp2_with fail
  refine (take_held b q (cut 5) (upd (fun _ => none) xs ⟨1, 1, late 0 10⟩) xs 2 14 10 _ ?hT (by kernel_rfl) (by rw [free_upd]; kernel_rfl)).mono ?_
  case hT => repeat (with_reducible first | exact T.out | apply Tab.alloc | apply Tab.drewN)
  rintro e w3 ⟨rfl, hb1⟩
  have n0 := Aside0.mk (below_step (by repeat (first | (with_reducible first | exact HB.out | apply below_alloc | apply pw_below_drewN | apply below_drew1) | refine below_set ?_ (by omega))) hb1)
  have nT := Aside0.mk (Tab.below (by repeat (with_reducible first | exact T.out | apply Tab.alloc | apply Tab.drewN)) hb1)
  clear HB hb1 T
  have HB := n0
  have T := nT
  clear n0 nT
  go_wp2_with fail
  refine (holds_q b q (cut 5) (upd (fun _ => none) xs ⟨1, 1, late 0 10⟩) xs 1 1 9 _ ?hT).mono ?_
  case hT => repeat (with_reducible first | exact T.out | apply Tab.alloc | apply Tab.drewN)
  rw [show holds (upd (fun _ => none) xs ⟨1, 1, late 0 10⟩) xs 1 1 9 = true by rw [holds_upd]; kernel_rfl]
  rintro e w4 ⟨rfl, hb1⟩
  have n0 := Aside0.mk (below_step (by repeat (first | (with_reducible first | exact HB.out | apply below_alloc | apply pw_below_drewN | apply below_drew1) | refine below_set ?_ (by omega))) hb1)
  have nT := Aside0.mk (Tab.below (by repeat (with_reducible first | exact T.out | apply Tab.alloc | apply Tab.drewN)) hb1)
  clear HB hb1 T
  have HB := n0
  have T := nT
  clear n0 nT
  go_wp2_with fail
  refine (holds_q b q (cut 5) (upd (fun _ => none) xs ⟨1, 1, late 0 10⟩) xs 1 1 10 _ ?hT).mono ?_
  case hT => repeat (with_reducible first | exact T.out | apply Tab.alloc | apply Tab.drewN)
  rw [show holds (upd (fun _ => none) xs ⟨1, 1, late 0 10⟩) xs 1 1 10 = false by rw [holds_upd]; kernel_rfl]
  rintro e w5 ⟨rfl, hb1⟩
  have n0 := Aside0.mk (below_step (by repeat (first | (with_reducible first | exact HB.out | apply below_alloc | apply pw_below_drewN | apply below_drew1) | refine below_set ?_ (by omega))) hb1)
  have nT := Aside0.mk (Tab.below (by repeat (with_reducible first | exact T.out | apply Tab.alloc | apply Tab.drewN)) hb1)
  clear HB hb1 T
  have HB := n0
  have T := nT
  clear n0 nT
  go_wp2_with fail
  refine (take_ok b q (cut 5) (upd (fun _ => none) xs ⟨1, 1, late 0 10⟩) xs 2 15 10 _ ?hT (by kernel_rfl) (by rw [free_upd]; kernel_rfl) 2 (by rw [upd_at]; kernel_rfl)).mono ?_
  case hT => repeat (with_reducible first | exact T.out | apply Tab.alloc | apply Tab.drewN)
  rintro e w6 ⟨rfl, hT, hb1⟩
  have n0 := Aside0.mk (below_turn (by repeat (first | (with_reducible first | exact HB.out | apply below_alloc | apply pw_below_drewN | apply below_drew1) | refine below_set ?_ (by omega))) hb1 hq)
  have nT := Aside0.mk hT
  clear HB hb1 T hT
  have HB := n0
  have T := nT
  clear n0 nT
  go_wp2
  go_ret
  exact ⟨rfl, by repeat (first | (with_reducible first | exact HB.out | apply below_alloc | apply pw_below_drewN | apply below_drew1) | refine below_set ?_ (by omega))⟩
end Go.Proofs.Ytnjmhiglpapopaa.L4
