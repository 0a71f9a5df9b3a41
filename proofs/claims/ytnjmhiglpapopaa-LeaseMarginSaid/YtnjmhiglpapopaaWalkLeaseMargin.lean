/-
  Proved here: what pacesetterlaw09.LeaseMargin returns, whatever the input: true. No condition.
-/
import Derived.Test.YtnjmhiglpapopaaL4
namespace Go.Proofs.Ytnjmhiglpapopaa.WalkLeaseMargin
open Go.RowKit Go.Proofs.Ytnjmhiglpapopaa.M Go.Proofs.Ytnjmhiglpapopaa.L0 Go.Proofs.Ytnjmhiglpapopaa.L1 Go.Proofs.Ytnjmhiglpapopaa.L2 Go.Proofs.Ytnjmhiglpapopaa.L3 Go.Proofs.Ytnjmhiglpapopaa.L4 Go.Proofs.YtnjmhiglpapopaaW.PrintWords Go.Proofs.YtnjmhiglpapopaaW.PrintLast Go.Proofs.YtnjmhiglpapopaaW.PrintMore
set_option linter.unusedVariables false
set_option linter.unusedSimpArgs false
attribute [local go_sem] max2_int min2_int max_two min_two run_makeMap lv field40

theorem wrap64_eq {n : Int} (h : -9223372036854775808 ≤ n) (h1 : n ≤ 9223372036854775807) : wrap64 n = n := by unfold wrap64; omega
theorem u64_wrap (n : Int) : IntKind.u64.wrap n = n % 18446744073709551616 := by
  have h : IntKind.u64.wrap n = n.emod 18446744073709551616 := by simp [IntKind.wrap]; rfl
  exact h
theorem raw_mod (n k : Int) (hk : 0 < k) (hk' : k ≤ 1073741824) : wrap64 ((IntKind.u64.wrap n).tmod k) = (n % 18446744073709551616) % k := by
  rw [u64_wrap, Int.tmod_eq_emod_of_nonneg (Int.emod_nonneg _ (by decide))]
  have h1 := Int.emod_nonneg (n % 18446744073709551616) (by omega : k ≠ 0)
  have h2 := Int.emod_lt_of_pos (n % 18446744073709551616) hk
  exact wrap64_eq (by omega) (by omega)
abbrev an : ByteArray := { data := #[97] }
theorem right_an (h now ttl : Int) (h1 : 0 ≤ h) (h2 : h < 64) (h3 : 0 ≤ now) (h4 : now ≤ 1099511627776) (h5 : 1 ≤ ttl) (h6 : ttl ≤ 1048576) : right an h now ttl = true := by
  unfold right
  rw [decide_eq_true h1, decide_eq_true h2, decide_eq_true h3, decide_eq_true h4, decide_eq_true h5, decide_eq_true h6]
  kernel_rfl
theorem late_eq (a b : Int) (h : 0 ≤ a + b) (h1 : a + b ≤ 1099511627776) : late a b = a + b := by
  unfold late
  rw [wrap64_eq (by omega) (by omega)]
  unfold mn
  split <;> omega
theorem cut_eq (n : Int) (h : 0 ≤ n) (h1 : n ≤ 1048576) : cut n = n := by
  unfold cut mx mn
  (repeat' split) <;> omega

set_option maxHeartbeats 1000000 in
theorem law (x y z : Int) (w : World) : Calls Try.prog 3 #[.int .i64 x, .int .i64 y, .int .i64 z] w fun e w' => e = .returned (.bool true) ∧ Below w.heap.size w w' := by
  have HB := Aside0.mk (Below.refl w.heap.size w)
  go_enter Try.func3, Try.ntmps3
  go_wp2_with fail
  refine (lives_q _).mono ?_
  rintro e w1 ⟨rfl, hb1⟩
  have n0 := Aside0.mk (below_step (by repeat (first | (with_reducible first | exact HB.out | apply below_alloc | apply pw_below_drewN | apply below_drew1) | refine below_set ?_ (by omega))) hb1)
  clear HB hb1
  have HB := n0
  clear n0
  go_wp2_with fail
  have hm := raw_mod x 1048577 (by decide) (by decide)
  have hn := raw_mod y 1073741824 (by decide) (by decide)
  have ht := raw_mod z 1048576 (by decide) (by decide)
  generalize wrap64 ((IntKind.u64.wrap x).tmod 1048577) = m at *
  generalize wrap64 ((IntKind.u64.wrap y).tmod 1073741824) = n at *
  generalize wrap64 ((IntKind.u64.wrap z).tmod 1048576) = t0 at *
  have m1 : 0 ≤ m ∧ m ≤ 1048576 := by omega
  have n1 : 0 ≤ n ∧ n < 1073741824 := by omega
  have t1 : 1 ≤ 1 + t0 ∧ 1 + t0 ≤ 1048576 := by omega
  rw [wrap64_eq (n := 1 + t0) (by omega) (by omega)]
  clear hm hn ht
  generalize 1 + t0 = t at *
  have s1 : wrap64 (n + t) = n + t := wrap64_eq (by omega) (by omega)
  have s2 : wrap64 (n + t + m) = n + t + m := wrap64_eq (by omega) (by omega)
  have s3 : wrap64 (n + t + m - 1) = n + t + m - 1 := wrap64_eq (by omega) (by omega)
  have l1 : late n t = n + t := late_eq _ _ (by omega) (by omega)
  have l2 : late (n + t) m = n + t + m := late_eq _ _ (by omega) (by omega)
  refine (new_e m _).mono ?_
  rintro e w2 ⟨b, q, rfl, hT, hb1, hq, hbq⟩
  have hq : w.heap.size ≤ q := Nat.le_trans (Below.size (by repeat (first | (with_reducible first | exact HB.out | apply below_alloc | apply pw_below_drewN | apply below_drew1) | refine below_set ?_ (by omega)))) hq
  have hbq : w.heap.size ≤ b := Nat.le_trans (Below.size (by repeat (first | (with_reducible first | exact HB.out | apply below_alloc | apply pw_below_drewN | apply below_drew1) | refine below_set ?_ (by omega)))) hbq
  have n0 := Aside0.mk (below_step (by repeat (first | (with_reducible first | exact HB.out | apply below_alloc | apply pw_below_drewN | apply below_drew1) | refine below_set ?_ (by omega))) hb1)
  have T := Aside0.mk hT
  clear HB hb1 hT
  have HB := n0
  clear n0
  rw [cut_eq m m1.1 m1.2] at T
  go_wp2_with fail
  (try simp only [s1, s2, s3])
  refine (take_ok b q m (fun _ => none) an 1 n t _ ?hT (right_an _ _ _ (by decide) (by decide) (by omega) (by omega) (by omega) (by omega)) (by rfl) 1 (by kernel_rfl)).mono ?_
  case hT => repeat (with_reducible first | exact T.out | apply Tab.alloc | apply Tab.drewN)
  rintro e w3 ⟨rfl, hT, hb1⟩
  have n0 := Aside0.mk (below_turn (by repeat (first | (with_reducible first | exact HB.out | apply below_alloc | apply pw_below_drewN | apply below_drew1) | refine below_set ?_ (by omega))) hb1 hq)
  have nT := Aside0.mk hT
  clear HB hb1 T hT
  have HB := n0
  have T := nT
  clear n0 nT
  rw [l1] at T
  go_wp2_with fail
  (try simp only [s1, s2, s3])
  refine (take_held b q m (upd (fun _ => none) an ⟨1, 1, n + t⟩) an 2 (n + t + m - 1) 1 _ ?hT (right_an _ _ _ (by decide) (by decide) (by omega) (by omega) (by omega) (by omega)) (by rw [free_upd, l2]; simp; omega)).mono ?_
  case hT => repeat (with_reducible first | exact T.out | apply Tab.alloc | apply Tab.drewN)
  rintro e w4 ⟨rfl, hb1⟩
  have n0 := Aside0.mk (below_step (by repeat (first | (with_reducible first | exact HB.out | apply below_alloc | apply pw_below_drewN | apply below_drew1) | refine below_set ?_ (by omega))) hb1)
  have nT := Aside0.mk (Tab.below (by repeat (with_reducible first | exact T.out | apply Tab.alloc | apply Tab.drewN)) hb1)
  clear HB hb1 T
  have HB := n0
  have T := nT
  clear n0 nT
  go_wp2_with fail
  (try simp only [s1, s2, s3])
  refine (free_q b q m (upd (fun _ => none) an ⟨1, 1, n + t⟩) an (n + t + m) _ ?hT).mono ?_
  case hT => repeat (with_reducible first | exact T.out | apply Tab.alloc | apply Tab.drewN)
  rw [show free (upd (fun _ => none) an ⟨1, 1, n + t⟩) m an (n + t + m) = true by rw [free_upd, l2]; simp]
  rintro e w5 ⟨rfl, hb1⟩
  have n0 := Aside0.mk (below_step (by repeat (first | (with_reducible first | exact HB.out | apply below_alloc | apply pw_below_drewN | apply below_drew1) | refine below_set ?_ (by omega))) hb1)
  have nT := Aside0.mk (Tab.below (by repeat (with_reducible first | exact T.out | apply Tab.alloc | apply Tab.drewN)) hb1)
  clear HB hb1 T
  have HB := n0
  have T := nT
  clear n0 nT
  go_wp2_with fail
  (try simp only [s1, s2, s3])
  refine (take_ok b q m (upd (fun _ => none) an ⟨1, 1, n + t⟩) an 2 (n + t + m) 1 _ ?hT (right_an _ _ _ (by decide) (by decide) (by omega) (by omega) (by omega) (by omega)) (by rw [free_upd, l2]; simp) 2 (by rw [upd_at]; kernel_rfl)).mono ?_
  case hT => repeat (with_reducible first | exact T.out | apply Tab.alloc | apply Tab.drewN)
  rintro e w6 ⟨rfl, hT, hb1⟩
  have n0 := Aside0.mk (below_turn (by repeat (first | (with_reducible first | exact HB.out | apply below_alloc | apply pw_below_drewN | apply below_drew1) | refine below_set ?_ (by omega))) hb1 hq)
  have nT := Aside0.mk hT
  clear HB hb1 T hT
  have HB := n0
  have T := nT
  clear n0 nT
  have all : ∀ (c1 c2 : Bool), (m == 0) = c1 → (t == 1) = c2 → True := fun _ _ _ _ => trivial
  clear all
  cases c1 : (m == 0) <;> cases c2 : (t == 1)
  all_goals (
    go_wp2_with fail
    (try simp only [s1, s2, s3])
    refine (holds_q b q m (upd (upd (fun _ => none) an ⟨1, 1, n + t⟩) an ⟨2, 2, late (n + t + m) 1⟩) an 1 1 (n + t) _ ?hT).mono ?_
    case hT => repeat (with_reducible first | exact T.out | apply Tab.alloc | apply Tab.drewN)
    rw [show holds (upd (upd (fun _ => none) an ⟨1, 1, n + t⟩) an ⟨2, 2, late (n + t + m) 1⟩) an 1 1 (n + t) = false by rw [holds_upd]; simp]
    rintro e w7 ⟨rfl, hb1⟩
    have n0 := Aside0.mk (below_step (by repeat (first | (with_reducible first | exact HB.out | apply below_alloc | apply pw_below_drewN | apply below_drew1) | refine below_set ?_ (by omega))) hb1)
    have nT := Aside0.mk (Tab.below (by repeat (with_reducible first | exact T.out | apply Tab.alloc | apply Tab.drewN)) hb1)
    clear HB hb1 T
    have HB := n0
    have T := nT
    clear n0 nT
    go_wp2
    go_ret
    exact ⟨rfl, by repeat (first | (with_reducible first | exact HB.out | apply below_alloc | apply pw_below_drewN | apply below_drew1) | refine below_set ?_ (by omega))⟩
  )
theorem walk (x y z : Int) (w : World) (_ : (Lit.int .i64 x).wf = true) (_ : (Lit.int .i64 y).wf = true) (_ : (Lit.int .i64 z).wf = true) : Calls Try.prog 3 #[.int .i64 x, .int .i64 y, .int .i64 z] w fun e w' => e = .returned (.bool true) ∧ Below w.heap.size w w' := law x y z w
end Go.Proofs.Ytnjmhiglpapopaa.WalkLeaseMargin
