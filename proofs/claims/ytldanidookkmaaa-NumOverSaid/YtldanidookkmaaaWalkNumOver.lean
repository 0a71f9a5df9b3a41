/-
  Proved here: NumOver answers true, at all whole numbers of 64 bits: the walk. No condition.
-/
import Derived.Test.YtldanidookkmaaaA1
namespace Go.Proofs.Ytldanidookkmaaa.WalkNumOver
open Go.RowKit Go.Proofs.Ytldanidookkmaaa.A1 Go.Proofs.Ytldanidookkmaaa.PNumSums Go.Proofs.YtldanidookkmaaaW.PrintWords Go.Proofs.YtldanidookkmaaaW.PrintLast Go.Proofs.YtldanidookkmaaaW.PrintMore
set_option maxHeartbeats 1000000 in
theorem walk_no1 (a b : Int) (w : World) (hV : addV a b = 0) (hV' : addV b a = 0) (hE : addE a b = 1) (hE' : addE b a = 1) (h1 : (cut a == a) = false) :
    Calls Try.prog 8 #[.int .i64 a, .int .i64 b] w fun e w' => e = .returned (.bool true) ∧ Below w.heap.size w w' := by
  have HB := Aside0.mk (Below.refl w.heap.size w)
  have HV := Aside0.mk hV
  have HV' := Aside0.mk hV'
  have HE := Aside0.mk hE
  have HE' := Aside0.mk hE'
  clear hV hV' hE hE'
  go_enter Try.func8, Try.ntmps8
  go_wp2_with (first | (go_at_call 10; refine (lives_any _).mono ?_; rintro e w1 ⟨rfl, hb⟩; have n0_ := Aside0.mk (below_step HB.out hb); clear HB hb; have HB := n0_; clear n0_) | (go_at_call 23; refine (add_any _ _ _).mono ?_; rintro e w1 ⟨rfl, hb⟩; (first | rw [HV.out, HE.out] | rw [HV'.out, HE'.out]); have n0_ := Aside0.mk (below_step HB.out hb); clear HB hb; have HB := n0_; clear n0_) | (go_at_call 14; refine (cut_any _ _).mono ?_; rintro e w1 ⟨rfl, hb⟩; have n0_ := Aside0.mk (below_step HB.out hb); clear HB hb; have HB := n0_; clear n0_))
  go_ret
  exact ⟨rfl, HB.out⟩
set_option maxHeartbeats 1000000 in
theorem walk_no2 (a b : Int) (w : World) (hV : addV a b = 0) (hV' : addV b a = 0) (hE : addE a b = 1) (hE' : addE b a = 1) (h1 : (cut a == a) = true) (h2 : (cut b == b) = false) :
    Calls Try.prog 8 #[.int .i64 a, .int .i64 b] w fun e w' => e = .returned (.bool true) ∧ Below w.heap.size w w' := by
  have HB := Aside0.mk (Below.refl w.heap.size w)
  have HV := Aside0.mk hV
  have HV' := Aside0.mk hV'
  have HE := Aside0.mk hE
  have HE' := Aside0.mk hE'
  clear hV hV' hE hE'
  go_enter Try.func8, Try.ntmps8
  go_wp2_with (first | (go_at_call 10; refine (lives_any _).mono ?_; rintro e w1 ⟨rfl, hb⟩; have n0_ := Aside0.mk (below_step HB.out hb); clear HB hb; have HB := n0_; clear n0_) | (go_at_call 23; refine (add_any _ _ _).mono ?_; rintro e w1 ⟨rfl, hb⟩; (first | rw [HV.out, HE.out] | rw [HV'.out, HE'.out]); have n0_ := Aside0.mk (below_step HB.out hb); clear HB hb; have HB := n0_; clear n0_) | (go_at_call 14; refine (cut_any _ _).mono ?_; rintro e w1 ⟨rfl, hb⟩; have n0_ := Aside0.mk (below_step HB.out hb); clear HB hb; have HB := n0_; clear n0_))
  go_ret
  exact ⟨rfl, HB.out⟩
set_option maxHeartbeats 1000000 in
theorem walk_over (a b : Int) (w : World) (hV : addV a b = 0) (hV' : addV b a = 0) (hE : addE a b = 12) (hE' : addE b a = 12) (h1 : (cut a == a) = true) (h2 : (cut b == b) = true) (b1 : 0 ≤ b) (b2 : b ≤ 1048576) (h3 : decide (a ≤ 1048576 - b) = false) :
    Calls Try.prog 8 #[.int .i64 a, .int .i64 b] w fun e w' => e = .returned (.bool true) ∧ Below w.heap.size w w' := by
  have HB := Aside0.mk (Below.refl w.heap.size w)
  have HV := Aside0.mk hV
  have HV' := Aside0.mk hV'
  have HE := Aside0.mk hE
  have HE' := Aside0.mk hE'
  clear hV hV' hE hE'
  go_enter Try.func8, Try.ntmps8
  go_wp2_with (first | (go_at_call 10; refine (lives_any _).mono ?_; rintro e w1 ⟨rfl, hb⟩; have n0_ := Aside0.mk (below_step HB.out hb); clear HB hb; have HB := n0_; clear n0_) | (go_at_call 23; refine (add_any _ _ _).mono ?_; rintro e w1 ⟨rfl, hb⟩; (first | rw [HV.out, HE.out] | rw [HV'.out, HE'.out]); have n0_ := Aside0.mk (below_step HB.out hb); clear HB hb; have HB := n0_; clear n0_) | (go_at_call 14; refine (cut_any _ _).mono ?_; rintro e w1 ⟨rfl, hb⟩; have n0_ := Aside0.mk (below_step HB.out hb); clear HB hb; have HB := n0_; clear n0_))
  go_ret
  exact ⟨rfl, HB.out⟩
set_option maxHeartbeats 1000000 in
theorem walk_sum (a b s : Int) (w : World) (hV : addV a b = s) (hV' : addV b a = s) (hE : addE a b = 0) (hE' : addE b a = 0) (h1 : (cut a == a) = true) (h2 : (cut b == b) = true) (b1 : 0 ≤ b) (b2 : b ≤ 1048576) (h3 : decide (a ≤ 1048576 - b) = true) (a1 : 0 ≤ a) (a2 : a ≤ 1048576) (s0 : 0 ≤ s) (s1 : s ≤ 1048576) (h4 : decide (a ≤ s) = true) (h5 : decide (b ≤ s) = true) (h6 : (s - a == b) = true) :
    Calls Try.prog 8 #[.int .i64 a, .int .i64 b] w fun e w' => e = .returned (.bool true) ∧ Below w.heap.size w w' := by
  have HB := Aside0.mk (Below.refl w.heap.size w)
  have HV := Aside0.mk hV
  have HV' := Aside0.mk hV'
  have HE := Aside0.mk hE
  have HE' := Aside0.mk hE'
  clear hV hV' hE hE'
  go_enter Try.func8, Try.ntmps8
  go_wp2_with (first | (go_at_call 10; refine (lives_any _).mono ?_; rintro e w1 ⟨rfl, hb⟩; have n0_ := Aside0.mk (below_step HB.out hb); clear HB hb; have HB := n0_; clear n0_) | (go_at_call 23; refine (add_any _ _ _).mono ?_; rintro e w1 ⟨rfl, hb⟩; (first | rw [HV.out, HE.out] | rw [HV'.out, HE'.out]); have n0_ := Aside0.mk (below_step HB.out hb); clear HB hb; have HB := n0_; clear n0_) | (go_at_call 14; refine (cut_any _ _).mono ?_; rintro e w1 ⟨rfl, hb⟩; have n0_ := Aside0.mk (below_step HB.out hb); clear HB hb; have HB := n0_; clear n0_))
  go_ret
  exact ⟨rfl, HB.out⟩

set_option linter.unusedVariables false in
theorem walk (a b : Int) (w : World) (_ : (Lit.int .i64 a).wf = true) (_ : (Lit.int .i64 b).wf = true) : Calls Try.prog 8 #[.int .i64 a, .int .i64 b] w fun e w' => e = .returned (.bool true) ∧ Below w.heap.size w w' := by
  by_cases ha : cut a = a
  · have ha' := (cut_self a).1 ha
    have h1 : (cut a == a) = true := by simp [ha]
    by_cases hb : cut b = b
    · have hb' := (cut_self b).1 hb
      have h2 : (cut b == b) = true := by simp [hb]
      by_cases hs : a + b ≤ 1048576
      · exact walk_sum a b (a + b) w (by unfold addV; rw [if_pos (by omega)]) (by unfold addV; rw [if_pos (by omega)]; omega) (by unfold addE; rw [if_pos (by omega), if_pos (by omega)]) (by unfold addE; rw [if_pos (by omega), if_pos (by omega)])
          h1 h2 (by omega) (by omega) (by simp; omega) (by omega) (by omega) (by omega) hs (by simp; omega) (by simp; omega) (by simp; omega)
      · exact walk_over a b w (by unfold addV; rw [if_neg (by omega)]) (by unfold addV; rw [if_neg (by omega)]) (by unfold addE; rw [if_pos (by omega), if_neg (by omega)]) (by unfold addE; rw [if_pos (by omega), if_neg (by omega)])
          h1 h2 (by omega) (by omega) (by simp; omega)
    · have hb' : ¬ (0 ≤ b ∧ b ≤ 1048576) := fun h => hb ((cut_self b).2 h)
      exact walk_no2 a b w (by unfold addV; rw [if_neg (by omega)]) (by unfold addV; rw [if_neg (by omega)]) (by unfold addE; rw [if_neg (by omega)]) (by unfold addE; rw [if_neg (by omega)]) h1 (by simp [hb])
  · have ha' : ¬ (0 ≤ a ∧ a ≤ 1048576) := fun h => ha ((cut_self a).2 h)
    exact walk_no1 a b w (by unfold addV; rw [if_neg (by omega)]) (by unfold addV; rw [if_neg (by omega)]) (by unfold addE; rw [if_neg (by omega)]) (by unfold addE; rw [if_neg (by omega)]) (by simp [ha])
end Go.Proofs.Ytldanidookkmaaa.WalkNumOver
