/-
  Proved here: what the reference's Right, Want, Go, Turn, Fall answer, of any slots. No condition.
-/
import Derived.Test.YtkjaeodnpgpfeaaS4
namespace Go.Proofs.Ytkjaeodnpgpfeaa.S6
open Go.RowKit Go.Proofs.Ytkjaeodnpgpfeaa.S0 Go.Proofs.Ytkjaeodnpgpfeaa.S1 Go.Proofs.Ytkjaeodnpgpfeaa.S2 Go.Proofs.Ytkjaeodnpgpfeaa.S3 Go.Proofs.Ytkjaeodnpgpfeaa.S4 Go.Proofs.YtkjaeodnpgpfeaaW.PrintWords Go.Proofs.YtkjaeodnpgpfeaaW.PrintLast Go.Proofs.YtkjaeodnpgpfeaaW.PrintMore
set_option linter.unusedVariables false
set_option linter.unusedSimpArgs false

theorem r0 (a b c d : Int) (w : World) (h0 : decide (0 ≤ a) = false) : Calls Try.prog 60 #[S1.sval a b c d] w fun e w' => e = .returned (.bool (false)) ∧ w.alloc (.cells #[.int .i64 a, .int .i64 b, .int .i64 c, .int .i64 d] 44) = w' := by
  go_enter Try.func60, Try.ntmps60
  go_wp2
  go_ret
  exact ⟨rfl, rfl⟩

theorem r1 (a b c d : Int) (w : World) (h0 : decide (0 ≤ a) = true) (h1 : decide (a ≤ 4) = false) : Calls Try.prog 60 #[S1.sval a b c d] w fun e w' => e = .returned (.bool (false)) ∧ w.alloc (.cells #[.int .i64 a, .int .i64 b, .int .i64 c, .int .i64 d] 44) = w' := by
  go_enter Try.func60, Try.ntmps60
  go_wp2
  go_ret
  exact ⟨rfl, rfl⟩

theorem r2 (a b c d : Int) (w : World) (h0 : decide (0 ≤ a) = true) (h1 : decide (a ≤ 4) = true) (h2 : decide (0 ≤ b) = false) : Calls Try.prog 60 #[S1.sval a b c d] w fun e w' => e = .returned (.bool (false)) ∧ w.alloc (.cells #[.int .i64 a, .int .i64 b, .int .i64 c, .int .i64 d] 44) = w' := by
  go_enter Try.func60, Try.ntmps60
  go_wp2
  go_ret
  exact ⟨rfl, rfl⟩

theorem r3 (a b c d : Int) (w : World) (h0 : decide (0 ≤ a) = true) (h1 : decide (a ≤ 4) = true) (h2 : decide (0 ≤ b) = true) (h3 : decide (0 ≤ c) = false) : Calls Try.prog 60 #[S1.sval a b c d] w fun e w' => e = .returned (.bool (false)) ∧ w.alloc (.cells #[.int .i64 a, .int .i64 b, .int .i64 c, .int .i64 d] 44) = w' := by
  go_enter Try.func60, Try.ntmps60
  go_wp2
  go_ret
  exact ⟨rfl, rfl⟩

theorem r4 (a b c d : Int) (w : World) (h0 : decide (0 ≤ a) = true) (h1 : decide (a ≤ 4) = true) (h2 : decide (0 ≤ b) = true) (h3 : decide (0 ≤ c) = true) (h4 : decide (0 ≤ d) = false) : Calls Try.prog 60 #[S1.sval a b c d] w fun e w' => e = .returned (.bool (false)) ∧ w.alloc (.cells #[.int .i64 a, .int .i64 b, .int .i64 c, .int .i64 d] 44) = w' := by
  go_enter Try.func60, Try.ntmps60
  go_wp2
  go_ret
  exact ⟨rfl, rfl⟩

theorem r5 (a b c d : Int) (w : World) (h0 : decide (0 ≤ a) = true) (h1 : decide (a ≤ 4) = true) (h2 : decide (0 ≤ b) = true) (h3 : decide (0 ≤ c) = true) (h4 : decide (0 ≤ d) = true) : Calls Try.prog 60 #[S1.sval a b c d] w fun e w' => e = .returned (.bool (decide (0 < b) == (a != 0))) ∧ w.alloc (.cells #[.int .i64 a, .int .i64 b, .int .i64 c, .int .i64 d] 44) = w' := by
  go_enter Try.func60, Try.ntmps60
  go_wp2
  go_ret
  exact ⟨rfl, rfl⟩

theorem right_any (a b c d : Int) (w : World) : Calls Try.prog 60 #[S1.sval a b c d] w fun e w' => e = .returned (.bool (right ⟨a, b, c, d⟩)) ∧ w.alloc (.cells #[.int .i64 a, .int .i64 b, .int .i64 c, .int .i64 d] 44) = w' := by
  by_cases h0 : 0 ≤ a
  · by_cases h1 : a ≤ 4
    · by_cases h2 : 0 ≤ b
      · by_cases h3 : 0 ≤ c
        · by_cases h4 : 0 ≤ d
          · have e : right ⟨a, b, c, d⟩ = (decide (0 < b) == (a != 0)) := by
              unfold right
              by_cases k4 : 0 < b <;> by_cases k5 : a = 0 <;> simp [k4, k5, h0, h1, h2, h3, h4]
            rw [e]
            exact r5 a b c d w (decide_eq_true h0) (decide_eq_true h1) (decide_eq_true h2) (decide_eq_true h3) (decide_eq_true h4)
          · rw [right_no _ _ _ _ (by omega)]; exact r4 a b c d w (decide_eq_true h0) (decide_eq_true h1) (decide_eq_true h2) (decide_eq_true h3) (decide_eq_false h4)
        · rw [right_no _ _ _ _ (by omega)]; exact r3 a b c d w (decide_eq_true h0) (decide_eq_true h1) (decide_eq_true h2) (decide_eq_false h3)
      · rw [right_no _ _ _ _ (by omega)]; exact r2 a b c d w (decide_eq_true h0) (decide_eq_true h1) (decide_eq_false h2)
    · rw [right_no _ _ _ _ (by omega)]; exact r1 a b c d w (decide_eq_true h0) (decide_eq_false h1)
  · rw [right_no _ _ _ _ (by omega)]; exact r0 a b c d w (decide_eq_false h0)

set_option maxHeartbeats 1000000 in
theorem rwant_not (a b c d v q : Int) (w : World) (h : right ⟨a, b, c, d⟩ = false) : Calls Try.prog 49 #[S1.sval a b c d, .int .i64 v, .int .i64 q] w fun e w' => e = .returned (.tuple #[S1.sval a b c d, .bool false]) ∧ Below w.heap.size w w' := by
  have HB := Aside0.mk (Below.refl w.heap.size w)
  go_enter Try.func49, Try.ntmps49
  go_wp2_with (go_at_call 60; refine (right_any _ _ _ _ _).mono ?_; rintro e w1 ⟨rfl, rfl⟩)
  exact bodyPost_ret (v := .tuple #[S1.sval a b c d, .bool false]) (by simp [results, Try.results49, go_sem]) rfl ⟨rfl, by repeat (first | (with_reducible first | exact HB.out | apply below_alloc | apply pw_below_drewN) | refine below_set ?_ (by omega))⟩

set_option maxHeartbeats 1000000 in
theorem rwant_low (a b c d v q : Int) (w : World) (h : right ⟨a, b, c, d⟩ = true) (h1 : decide (v < 0) = true) : Calls Try.prog 49 #[S1.sval a b c d, .int .i64 v, .int .i64 q] w fun e w' => e = .returned (.tuple #[S1.sval a b c d, .bool false]) ∧ Below w.heap.size w w' := by
  have HB := Aside0.mk (Below.refl w.heap.size w)
  go_enter Try.func49, Try.ntmps49
  go_wp2_with (go_at_call 60; refine (right_any _ _ _ _ _).mono ?_; rintro e w1 ⟨rfl, rfl⟩)
  exact bodyPost_ret (v := .tuple #[S1.sval a b c d, .bool false]) (by simp [results, Try.results49, go_sem]) rfl ⟨rfl, by repeat (first | (with_reducible first | exact HB.out | apply below_alloc | apply pw_below_drewN) | refine below_set ?_ (by omega))⟩

set_option maxHeartbeats 1000000 in
theorem rwant_old (a b c d v q : Int) (w : World) (h : right ⟨a, b, c, d⟩ = true) (h1 : decide (v < 0) = false) (h2 : decide (q ≤ d) = true) : Calls Try.prog 49 #[S1.sval a b c d, .int .i64 v, .int .i64 q] w fun e w' => e = .returned (.tuple #[S1.sval a b c d, .bool false]) ∧ Below w.heap.size w w' := by
  have HB := Aside0.mk (Below.refl w.heap.size w)
  go_enter Try.func49, Try.ntmps49
  go_wp2_with (go_at_call 60; refine (right_any _ _ _ _ _).mono ?_; rintro e w1 ⟨rfl, rfl⟩)
  exact bodyPost_ret (v := .tuple #[S1.sval a b c d, .bool false]) (by simp [results, Try.results49, go_sem]) rfl ⟨rfl, by repeat (first | (with_reducible first | exact HB.out | apply below_alloc | apply pw_below_drewN) | refine below_set ?_ (by omega))⟩

set_option maxHeartbeats 1000000 in
theorem rwant_off (a b c d v q : Int) (w : World) (h : right ⟨a, b, c, d⟩ = true) (h1 : decide (v < 0) = false) (h2 : decide (q ≤ d) = false) (h3 : decide (1 ≤ a) = false) : Calls Try.prog 49 #[S1.sval a b c d, .int .i64 v, .int .i64 q] w fun e w' => e = .returned (.tuple #[S1.sval a b v q, .bool true]) ∧ Below w.heap.size w w' := by
  have HB := Aside0.mk (Below.refl w.heap.size w)
  go_enter Try.func49, Try.ntmps49
  go_wp2_with (go_at_call 60; refine (right_any _ _ _ _ _).mono ?_; rintro e w1 ⟨rfl, rfl⟩)
  exact bodyPost_ret (v := .tuple #[S1.sval a b v q, .bool true]) (by simp [results, Try.results49, go_sem]) rfl ⟨rfl, by repeat (first | (with_reducible first | exact HB.out | apply below_alloc | apply pw_below_drewN) | refine below_set ?_ (by omega))⟩

set_option maxHeartbeats 1000000 in
theorem rwant_drain (a b c d v q : Int) (w : World) (h : right ⟨a, b, c, d⟩ = true) (h1 : decide (v < 0) = false) (h2 : decide (q ≤ d) = false) (h3 : decide (1 ≤ a) = true) (h4 : decide (a ≤ 3) = false) : Calls Try.prog 49 #[S1.sval a b c d, .int .i64 v, .int .i64 q] w fun e w' => e = .returned (.tuple #[S1.sval a b v q, .bool true]) ∧ Below w.heap.size w w' := by
  have HB := Aside0.mk (Below.refl w.heap.size w)
  go_enter Try.func49, Try.ntmps49
  go_wp2_with (go_at_call 60; refine (right_any _ _ _ _ _).mono ?_; rintro e w1 ⟨rfl, rfl⟩)
  exact bodyPost_ret (v := .tuple #[S1.sval a b v q, .bool true]) (by simp [results, Try.results49, go_sem]) rfl ⟨rfl, by repeat (first | (with_reducible first | exact HB.out | apply below_alloc | apply pw_below_drewN) | refine below_set ?_ (by omega))⟩

set_option maxHeartbeats 1000000 in
theorem rwant_same (a b c d v q : Int) (w : World) (h : right ⟨a, b, c, d⟩ = true) (h1 : decide (v < 0) = false) (h2 : decide (q ≤ d) = false) (h3 : decide (1 ≤ a) = true) (h4 : decide (a ≤ 3) = true) (h5 : (b != v) = false) : Calls Try.prog 49 #[S1.sval a b c d, .int .i64 v, .int .i64 q] w fun e w' => e = .returned (.tuple #[S1.sval a b v q, .bool true]) ∧ Below w.heap.size w w' := by
  have HB := Aside0.mk (Below.refl w.heap.size w)
  go_enter Try.func49, Try.ntmps49
  go_wp2_with (go_at_call 60; refine (right_any _ _ _ _ _).mono ?_; rintro e w1 ⟨rfl, rfl⟩)
  exact bodyPost_ret (v := .tuple #[S1.sval a b v q, .bool true]) (by simp [results, Try.results49, go_sem]) rfl ⟨rfl, by repeat (first | (with_reducible first | exact HB.out | apply below_alloc | apply pw_below_drewN) | refine below_set ?_ (by omega))⟩

set_option maxHeartbeats 1000000 in
theorem rwant_other (a b c d v q : Int) (w : World) (h : right ⟨a, b, c, d⟩ = true) (h1 : decide (v < 0) = false) (h2 : decide (q ≤ d) = false) (h3 : decide (1 ≤ a) = true) (h4 : decide (a ≤ 3) = true) (h5 : (b != v) = true) : Calls Try.prog 49 #[S1.sval a b c d, .int .i64 v, .int .i64 q] w fun e w' => e = .returned (.tuple #[S1.sval 4 b v q, .bool true]) ∧ Below w.heap.size w w' := by
  have HB := Aside0.mk (Below.refl w.heap.size w)
  go_enter Try.func49, Try.ntmps49
  go_wp2_with (go_at_call 60; refine (right_any _ _ _ _ _).mono ?_; rintro e w1 ⟨rfl, rfl⟩)
  exact bodyPost_ret (v := .tuple #[S1.sval 4 b v q, .bool true]) (by simp [results, Try.results49, go_sem]) rfl ⟨rfl, by repeat (first | (with_reducible first | exact HB.out | apply below_alloc | apply pw_below_drewN) | refine below_set ?_ (by omega))⟩

set_option maxHeartbeats 1000000 in
theorem rgo_not (a b c d : Int) (w : World) (h : right ⟨a, b, c, d⟩ = false) : Calls Try.prog 50 #[S1.sval a b c d] w fun e w' => e = .returned (.tuple #[S1.sval a b c d, .bool false]) ∧ Below w.heap.size w w' := by
  have HB := Aside0.mk (Below.refl w.heap.size w)
  go_enter Try.func50, Try.ntmps50
  go_wp2_with (go_at_call 60; refine (right_any _ _ _ _ _).mono ?_; rintro e w1 ⟨rfl, rfl⟩)
  exact bodyPost_ret (v := .tuple #[S1.sval a b c d, .bool false]) (by simp [results, Try.results50, go_sem]) rfl ⟨rfl, by repeat (first | (with_reducible first | exact HB.out | apply below_alloc | apply pw_below_drewN) | refine below_set ?_ (by omega))⟩

set_option maxHeartbeats 1000000 in
theorem rgo_idle (a b c d : Int) (w : World) (h : right ⟨a, b, c, d⟩ = true) (h1 : (a == 0) = true) (h2 : (c == 0) = true) : Calls Try.prog 50 #[S1.sval a b c d] w fun e w' => e = .returned (.tuple #[S1.sval a b c d, .bool false]) ∧ Below w.heap.size w w' := by
  have HB := Aside0.mk (Below.refl w.heap.size w)
  go_enter Try.func50, Try.ntmps50
  go_wp2_with (go_at_call 60; refine (right_any _ _ _ _ _).mono ?_; rintro e w1 ⟨rfl, rfl⟩)
  exact bodyPost_ret (v := .tuple #[S1.sval a b c d, .bool false]) (by simp [results, Try.results50, go_sem]) rfl ⟨rfl, by repeat (first | (with_reducible first | exact HB.out | apply below_alloc | apply pw_below_drewN) | refine below_set ?_ (by omega))⟩

set_option maxHeartbeats 1000000 in
theorem rgo_start (a b c d : Int) (w : World) (h : right ⟨a, b, c, d⟩ = true) (h1 : (a == 0) = true) (h2 : (c == 0) = false) : Calls Try.prog 50 #[S1.sval a b c d] w fun e w' => e = .returned (.tuple #[S1.sval 1 c c d, .bool true]) ∧ Below w.heap.size w w' := by
  have HB := Aside0.mk (Below.refl w.heap.size w)
  go_enter Try.func50, Try.ntmps50
  go_wp2_with (go_at_call 60; refine (right_any _ _ _ _ _).mono ?_; rintro e w1 ⟨rfl, rfl⟩)
  exact bodyPost_ret (v := .tuple #[S1.sval 1 c c d, .bool true]) (by simp [results, Try.results50, go_sem]) rfl ⟨rfl, by repeat (first | (with_reducible first | exact HB.out | apply below_alloc | apply pw_below_drewN) | refine below_set ?_ (by omega))⟩

set_option maxHeartbeats 1000000 in
theorem rgo_ready (a b c d : Int) (w : World) (h : right ⟨a, b, c, d⟩ = true) (h1 : (a == 0) = false) (h3 : (a == 1) = true) : Calls Try.prog 50 #[S1.sval a b c d] w fun e w' => e = .returned (.tuple #[S1.sval 2 b c d, .bool true]) ∧ Below w.heap.size w w' := by
  have HB := Aside0.mk (Below.refl w.heap.size w)
  go_enter Try.func50, Try.ntmps50
  go_wp2_with (go_at_call 60; refine (right_any _ _ _ _ _).mono ?_; rintro e w1 ⟨rfl, rfl⟩)
  exact bodyPost_ret (v := .tuple #[S1.sval 2 b c d, .bool true]) (by simp [results, Try.results50, go_sem]) rfl ⟨rfl, by repeat (first | (with_reducible first | exact HB.out | apply below_alloc | apply pw_below_drewN) | refine below_set ?_ (by omega))⟩

set_option maxHeartbeats 1000000 in
theorem rgo_stop (a b c d : Int) (w : World) (h : right ⟨a, b, c, d⟩ = true) (h1 : (a == 0) = false) (h3 : (a == 1) = false) (h4 : (a == 4) = true) : Calls Try.prog 50 #[S1.sval a b c d] w fun e w' => e = .returned (.tuple #[S1.sval 0 0 c d, .bool true]) ∧ Below w.heap.size w w' := by
  have HB := Aside0.mk (Below.refl w.heap.size w)
  go_enter Try.func50, Try.ntmps50
  go_wp2_with (go_at_call 60; refine (right_any _ _ _ _ _).mono ?_; rintro e w1 ⟨rfl, rfl⟩)
  exact bodyPost_ret (v := .tuple #[S1.sval 0 0 c d, .bool true]) (by simp [results, Try.results50, go_sem]) rfl ⟨rfl, by repeat (first | (with_reducible first | exact HB.out | apply below_alloc | apply pw_below_drewN) | refine below_set ?_ (by omega))⟩

set_option maxHeartbeats 1000000 in
theorem rgo_none (a b c d : Int) (w : World) (h : right ⟨a, b, c, d⟩ = true) (h1 : (a == 0) = false) (h3 : (a == 1) = false) (h4 : (a == 4) = false) : Calls Try.prog 50 #[S1.sval a b c d] w fun e w' => e = .returned (.tuple #[S1.sval a b c d, .bool false]) ∧ Below w.heap.size w w' := by
  have HB := Aside0.mk (Below.refl w.heap.size w)
  go_enter Try.func50, Try.ntmps50
  go_wp2_with (go_at_call 60; refine (right_any _ _ _ _ _).mono ?_; rintro e w1 ⟨rfl, rfl⟩)
  exact bodyPost_ret (v := .tuple #[S1.sval a b c d, .bool false]) (by simp [results, Try.results50, go_sem]) rfl ⟨rfl, by repeat (first | (with_reducible first | exact HB.out | apply below_alloc | apply pw_below_drewN) | refine below_set ?_ (by omega))⟩

set_option maxHeartbeats 1000000 in
theorem rturn_not (a b c d x y : Int) (w : World) (h : right ⟨a, b, c, d⟩ = false) : Calls Try.prog 51 #[S1.sval a b c d, .int .i64 x, .int .i64 y] w fun e w' => e = .returned (.tuple #[S1.sval a b c d, .bool false]) ∧ Below w.heap.size w w' := by
  have HB := Aside0.mk (Below.refl w.heap.size w)
  go_enter Try.func51, Try.ntmps51
  go_wp2_with (go_at_call 60; refine (right_any _ _ _ _ _).mono ?_; rintro e w1 ⟨rfl, rfl⟩)
  exact bodyPost_ret (v := .tuple #[S1.sval a b c d, .bool false]) (by simp [results, Try.results51, go_sem]) rfl ⟨rfl, by repeat (first | (with_reducible first | exact HB.out | apply below_alloc | apply pw_below_drewN) | refine below_set ?_ (by omega))⟩

set_option maxHeartbeats 1000000 in
theorem rturn_yes (a b c d x y : Int) (w : World) (h : right ⟨a, b, c, d⟩ = true) (h1 : (a != x) = false) : Calls Try.prog 51 #[S1.sval a b c d, .int .i64 x, .int .i64 y] w fun e w' => e = .returned (.tuple #[S1.sval y b c d, .bool true]) ∧ Below w.heap.size w w' := by
  have HB := Aside0.mk (Below.refl w.heap.size w)
  go_enter Try.func51, Try.ntmps51
  go_wp2_with (go_at_call 60; refine (right_any _ _ _ _ _).mono ?_; rintro e w1 ⟨rfl, rfl⟩)
  exact bodyPost_ret (v := .tuple #[S1.sval y b c d, .bool true]) (by simp [results, Try.results51, go_sem]) rfl ⟨rfl, by repeat (first | (with_reducible first | exact HB.out | apply below_alloc | apply pw_below_drewN) | refine below_set ?_ (by omega))⟩

set_option maxHeartbeats 1000000 in
theorem rturn_no (a b c d x y : Int) (w : World) (h : right ⟨a, b, c, d⟩ = true) (h1 : (a != x) = true) : Calls Try.prog 51 #[S1.sval a b c d, .int .i64 x, .int .i64 y] w fun e w' => e = .returned (.tuple #[S1.sval a b c d, .bool false]) ∧ Below w.heap.size w w' := by
  have HB := Aside0.mk (Below.refl w.heap.size w)
  go_enter Try.func51, Try.ntmps51
  go_wp2_with (go_at_call 60; refine (right_any _ _ _ _ _).mono ?_; rintro e w1 ⟨rfl, rfl⟩)
  exact bodyPost_ret (v := .tuple #[S1.sval a b c d, .bool false]) (by simp [results, Try.results51, go_sem]) rfl ⟨rfl, by repeat (first | (with_reducible first | exact HB.out | apply below_alloc | apply pw_below_drewN) | refine below_set ?_ (by omega))⟩

set_option maxHeartbeats 1000000 in
theorem rfall_not (a b c d : Int) (w : World) (h : right ⟨a, b, c, d⟩ = false) : Calls Try.prog 52 #[S1.sval a b c d] w fun e w' => e = .returned (.tuple #[S1.sval a b c d, .bool false]) ∧ Below w.heap.size w w' := by
  have HB := Aside0.mk (Below.refl w.heap.size w)
  go_enter Try.func52, Try.ntmps52
  go_wp2_with (go_at_call 60; refine (right_any _ _ _ _ _).mono ?_; rintro e w1 ⟨rfl, rfl⟩)
  exact bodyPost_ret (v := .tuple #[S1.sval a b c d, .bool false]) (by simp [results, Try.results52, go_sem]) rfl ⟨rfl, by repeat (first | (with_reducible first | exact HB.out | apply below_alloc | apply pw_below_drewN) | refine below_set ?_ (by omega))⟩

set_option maxHeartbeats 1000000 in
theorem rfall_off (a b c d : Int) (w : World) (h : right ⟨a, b, c, d⟩ = true) (h1 : (a == 0) = true) : Calls Try.prog 52 #[S1.sval a b c d] w fun e w' => e = .returned (.tuple #[S1.sval a b c d, .bool false]) ∧ Below w.heap.size w w' := by
  have HB := Aside0.mk (Below.refl w.heap.size w)
  go_enter Try.func52, Try.ntmps52
  go_wp2_with (go_at_call 60; refine (right_any _ _ _ _ _).mono ?_; rintro e w1 ⟨rfl, rfl⟩)
  exact bodyPost_ret (v := .tuple #[S1.sval a b c d, .bool false]) (by simp [results, Try.results52, go_sem]) rfl ⟨rfl, by repeat (first | (with_reducible first | exact HB.out | apply below_alloc | apply pw_below_drewN) | refine below_set ?_ (by omega))⟩

set_option maxHeartbeats 1000000 in
theorem rfall_yes (a b c d : Int) (w : World) (h : right ⟨a, b, c, d⟩ = true) (h1 : (a == 0) = false) : Calls Try.prog 52 #[S1.sval a b c d] w fun e w' => e = .returned (.tuple #[S1.sval 0 0 c d, .bool true]) ∧ Below w.heap.size w w' := by
  have HB := Aside0.mk (Below.refl w.heap.size w)
  go_enter Try.func52, Try.ntmps52
  go_wp2_with (go_at_call 60; refine (right_any _ _ _ _ _).mono ?_; rintro e w1 ⟨rfl, rfl⟩)
  exact bodyPost_ret (v := .tuple #[S1.sval 0 0 c d, .bool true]) (by simp [results, Try.results52, go_sem]) rfl ⟨rfl, by repeat (first | (with_reducible first | exact HB.out | apply below_alloc | apply pw_below_drewN) | refine below_set ?_ (by omega))⟩

theorem rwant_any (s : Sl) (v q : Int) (w : World) : Calls Try.prog 49 #[sv s, .int .i64 v, .int .i64 q] w fun e w' => e = .returned (.tuple #[sv (wants s v q).1, .bool (wants s v q).2]) ∧ Below w.heap.size w w' := by
  obtain ⟨a, b, c, d⟩ := s
  unfold wants sv
  cases h : right ⟨a, b, c, d⟩ with
  | false => simpa using rwant_not a b c d v q w h
  | true =>
    have hr := h
    unfold right at hr
    simp only [decide_eq_true_eq] at hr
    by_cases h1 : v < 0
    · rw [if_neg (by simp; omega)]
      exact rwant_low a b c d v q w h (decide_eq_true h1)
    · by_cases h2 : q ≤ d
      · rw [if_neg (by simp; omega)]
        exact rwant_old a b c d v q w h (decide_eq_false h1) (decide_eq_true h2)
      · rw [if_pos ⟨rfl, by omega, by simp; omega⟩]
        by_cases h3 : 1 ≤ a
        · by_cases h4 : b = v
          · rw [if_neg (by simp [h4])]
            by_cases h5 : a ≤ 3
            · exact rwant_same a b c d v q w h (decide_eq_false h1) (decide_eq_false h2) (decide_eq_true h3) (decide_eq_true h5) (by simp [h4])
            · exact rwant_drain a b c d v q w h (decide_eq_false h1) (decide_eq_false h2) (decide_eq_true h3) (decide_eq_false h5)
          · rw [if_pos ⟨by dsimp only; omega, h4⟩]
            by_cases h5 : a ≤ 3
            · exact rwant_other a b c d v q w h (decide_eq_false h1) (decide_eq_false h2) (decide_eq_true h3) (decide_eq_true h5) (by simp [h4])
            · have h6 : a = 4 := by omega
              subst h6
              exact rwant_drain 4 b c d v q w h (decide_eq_false h1) (decide_eq_false h2) rfl rfl
        · have h6 : a = 0 := by omega
          rw [if_neg (by simp [h6])]
          exact rwant_off a b c d v q w h (decide_eq_false h1) (decide_eq_false h2) (decide_eq_false h3)

theorem rgo_any (s : Sl) (w : World) : Calls Try.prog 50 #[sv s] w fun e w' => e = .returned (.tuple #[sv (goes s).1, .bool (goes s).2]) ∧ Below w.heap.size w w' := by
  obtain ⟨a, b, c, d⟩ := s
  unfold goes sv
  cases h : right ⟨a, b, c, d⟩ with
  | false => simpa using rgo_not a b c d w h
  | true =>
    have hr := h
    unfold right at hr
    simp only [decide_eq_true_eq] at hr
    rw [if_pos rfl]
    by_cases h1 : a = 0
    · rw [if_pos h1]
      by_cases h2 : 0 < c
      · rw [if_pos h2]
        exact rgo_start a b c d w h (by simp [h1]) (by simp; omega)
      · rw [if_neg h2]
        exact rgo_idle a b c d w h (by simp [h1]) (by simp; omega)
    · rw [if_neg h1]
      by_cases h3 : a = 1
      · rw [if_pos h3]
        exact rgo_ready a b c d w h (by simp [h1]) (by simp [h3])
      · rw [if_neg h3]
        by_cases h4 : a = 4
        · rw [if_pos h4]
          exact rgo_stop a b c d w h (by simp [h1]) (by simp [h3]) (by simp [h4])
        · rw [if_neg h4]
          exact rgo_none a b c d w h (by simp [h1]) (by simp [h3]) (by simp [h4])

theorem rturn_any (s : Sl) (x y : Int) (w : World) : Calls Try.prog 51 #[sv s, .int .i64 x, .int .i64 y] w fun e w' => e = .returned (.tuple #[sv (turns s x y).1, .bool (turns s x y).2]) ∧ Below w.heap.size w w' := by
  obtain ⟨a, b, c, d⟩ := s
  unfold turns sv
  cases h : right ⟨a, b, c, d⟩ with
  | false => simpa using rturn_not a b c d x y w h
  | true =>
    by_cases h1 : a = x
    · rw [if_pos ⟨rfl, h1⟩]
      exact rturn_yes a b c d x y w h (by simp [h1])
    · rw [if_neg (by simp [h1])]
      exact rturn_no a b c d x y w h (by simp [h1])

theorem rfall_any (s : Sl) (w : World) : Calls Try.prog 52 #[sv s] w fun e w' => e = .returned (.tuple #[sv (falls s).1, .bool (falls s).2]) ∧ Below w.heap.size w w' := by
  obtain ⟨a, b, c, d⟩ := s
  unfold falls sv
  cases h : right ⟨a, b, c, d⟩ with
  | false => simpa using rfall_not a b c d w h
  | true =>
    have hr := h
    unfold right at hr
    simp only [decide_eq_true_eq] at hr
    rw [if_pos rfl]
    by_cases h1 : a = 0
    · have h2 : b = 0 := by omega
      subst h1 h2
      exact rfall_off 0 0 c d w h rfl
    · have e : decide (a ≠ 0) = true := by simp [h1]
      dsimp only
      rw [e]
      exact rfall_yes a b c d w h (by simp [h1])
end Go.Proofs.Ytkjaeodnpgpfeaa.S6
