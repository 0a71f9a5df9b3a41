/-
  Proved here: what num.Cut, num.Percent, num.Add, num.Mul and the references' Add, Mul, Cut answer, at any whole numbers of 64 bits. No condition.
-/
import Derived.Test.YtldanidookkmaaaPNumSumsx1
namespace Go.Proofs.Ytldanidookkmaaa.A1
open Go.RowKit Go.Proofs.Ytldanidookkmaaa.PNumSums Go.Proofs.YtldanidookkmaaaW.PrintWords Go.Proofs.YtldanidookkmaaaW.PrintLast Go.Proofs.YtldanidookkmaaaW.PrintMore

def cut (n : Int) : Int := mn (mx n 0) 1048576
theorem cut_bounds (n : Int) : 0 ≤ cut n ∧ cut n ≤ 1048576 := by
  unfold cut mn mx; constructor <;> (repeat' split) <;> omega
theorem cut_self (n : Int) : cut n = n ↔ 0 ≤ n ∧ n ≤ 1048576 := by
  unfold cut mn mx; (repeat' split) <;> omega

theorem lives_true : pacesetterlaw02_lives.f 70 = some true := by decide +kernel
theorem lives_any (w : World) : Calls Try.prog 10 #[] w fun e w' => e = .returned (.bool true) ∧ Below w.heap.size w w' :=
  pacesetterlaw02_lives.calls 70 true w lives_true

theorem cut_any (n : Int) (w : World) : Calls Try.prog 14 #[.int .i64 n] w fun e w' => e = .returned (.int .i64 (cut n)) ∧ Below w.heap.size w w' :=
  num_Cut.calls n (cut n) w rfl

theorem of_drawn {w w' : World} (h : Drawn0 w w') : Below w.heap.size w w' := by
  obtain ⟨n, rfl⟩ := h.out
  exact pw_below_drewN (Below.refl _ _) n

theorem refcut_eq (n : Int) : pacesetterref02_Cut.f n = some (cut n) := by
  unfold pacesetterref02_Cut.f cut mn mx; (repeat' split) <;> first | rfl | (congr 1; omega) | omega
theorem refcut_any (n : Int) (w : World) : Calls Try.prog 27 #[.int .i64 n] w fun e w' => e = .returned (.int .i64 (cut n)) ∧ Below w.heap.size w w' :=
  (pacesetterref02_Cut.calls n (cut n) w (refcut_eq n)).mono fun _ _ h => ⟨h.1, of_drawn h.2⟩

theorem wrap_in (x : Int) (h0 : -9223372036854775808 ≤ x) (h1 : x ≤ 9223372036854775807) : wrap64 x = x := by unfold wrap64; omega

/-- The sum and its error. -/
def addV (a b : Int) : Int := if 0 ≤ a ∧ a ≤ 1048576 ∧ 0 ≤ b ∧ b ≤ 1048576 ∧ a + b ≤ 1048576 then a + b else 0
def addE (a b : Int) : Int := if 0 ≤ a ∧ a ≤ 1048576 ∧ 0 ≤ b ∧ b ≤ 1048576 then (if a + b ≤ 1048576 then 0 else 12) else 1
def mulV (a b : Int) : Int := if 0 ≤ a ∧ a ≤ 1048576 ∧ 0 ≤ b ∧ b ≤ 1048576 ∧ a * b ≤ 1048576 then a * b else 0
def mulE (a b : Int) : Int := if 0 ≤ a ∧ a ≤ 1048576 ∧ 0 ≤ b ∧ b ≤ 1048576 then (if a * b ≤ 1048576 then 0 else 12) else 1

theorem refadd_any (a b : Int) (w : World) : Calls Try.prog 24 #[.int .i64 a, .int .i64 b] w fun e w' => e = .returned (.tuple #[.int .i64 (addV a b), .int .i64 (addE a b)]) ∧ Below w.heap.size w w' := by
  have h : pacesetterref02_Add.f 1 a b = some (addV a b, addE a b) := by
    unfold pacesetterref02_Add.f
    simp only [refcut_eq, Option.bind_some, pacesetterref02_Add.j0, if_true]
    have ha := cut_self a
    have hb := cut_self b
    by_cases h1 : cut a = a
    · rw [if_pos h1]
      by_cases h2 : cut b = b
      · have e : (cut b != b) = false := by simp [h2]
        have hab := ha.1 h1
        have hbb := hb.1 h2
        rw [e, if_neg (by simp), wrap_in (a + b) (by omega) (by omega)]
        unfold addV addE
        by_cases hs : a + b ≤ 1048576
        · rw [if_neg (by omega), if_pos (by omega), if_pos (by omega), if_pos hs]
        · rw [if_pos (by omega), if_neg (by omega), if_pos (by omega), if_neg hs]
      · have e : (cut b != b) = true := by simp [h2]
        rw [e, if_pos rfl]
        unfold addV addE
        rw [if_neg (by omega), if_neg (by omega)]
    · rw [if_neg h1]
      unfold addV addE
      rw [if_neg (by omega), if_neg (by omega)]
  exact (pacesetterref02_Add.calls 1 a b _ _ w h).mono fun _ _ h => ⟨h.1, of_drawn h.2⟩

theorem mul_bounds (a b : Int) (ha : 0 ≤ a) (ha' : a ≤ 1048576) (hb : 0 ≤ b) (hb' : b ≤ 1048576) : 0 ≤ a * b ∧ a * b ≤ 1099511627776 := by
  have h1 := Int.mul_nonneg ha hb
  have h2 := Int.mul_le_mul_of_nonneg_right ha' hb
  exact ⟨h1, by omega⟩

theorem refmul_any (a b : Int) (w : World) : Calls Try.prog 26 #[.int .i64 a, .int .i64 b] w fun e w' => e = .returned (.tuple #[.int .i64 (mulV a b), .int .i64 (mulE a b)]) ∧ Below w.heap.size w w' := by
  have h : pacesetterref02_Mul.f 1 a b = some (mulV a b, mulE a b) := by
    unfold pacesetterref02_Mul.f
    simp only [refcut_eq, Option.bind_some, pacesetterref02_Mul.j0, if_true]
    have ha := cut_self a
    have hb := cut_self b
    by_cases h1 : cut a = a
    · rw [if_pos h1]
      by_cases h2 : cut b = b
      · have e : (cut b != b) = false := by simp [h2]
        have hab := ha.1 h1
        have hbb := hb.1 h2
        have hm := mul_bounds a b hab.1 hab.2 hbb.1 hbb.2
        rw [e, if_neg (by simp), wrap_in (a * b) (by omega) (by omega)]
        unfold mulV mulE
        by_cases hs : a * b ≤ 1048576
        · rw [if_neg (by omega), if_pos (by omega), if_pos (by omega), if_pos hs]
        · rw [if_pos (by omega), if_neg (by omega), if_pos (by omega), if_neg hs]
      · have e : (cut b != b) = true := by simp [h2]
        rw [e, if_pos rfl]
        unfold mulV mulE
        rw [if_neg (by omega), if_neg (by omega)]
    · rw [if_neg h1]
      unfold mulV mulE
      rw [if_neg (by omega), if_neg (by omega)]
  exact (pacesetterref02_Mul.calls 1 a b _ _ w h).mono fun _ _ h => ⟨h.1, of_drawn h.2⟩

/-! ### checked, at the two functions that are handed to it -/
theorem sum_any (a b : Int) (w : World) : Calls Try.prog 30 #[.int .i64 a, .int .i64 b] w fun e w' => e = .returned (.int .i64 (wrap64 (a + b))) ∧ w = w' := by
  go_enter Try.func30, Try.ntmps30
  go_wp2
  go_ret
  exact ⟨rfl, rfl⟩
theorem product_any (a b : Int) (w : World) : Calls Try.prog 31 #[.int .i64 a, .int .i64 b] w fun e w' => e = .returned (.int .i64 (wrap64 (a * b))) ∧ w = w' := by
  go_enter Try.func31, Try.ntmps31
  go_wp2
  go_ret
  exact ⟨rfl, rfl⟩

set_option maxHeartbeats 1000000 in
theorem add_any (a b : Int) (w : World) : Calls Try.prog 23 #[.int .i64 a, .int .i64 b] w fun e w' => e = .returned (.tuple #[.int .i64 (addV a b), .int .i64 (addE a b)]) ∧ Below w.heap.size w w' := by
  have HB := Aside0.mk (Below.refl w.heap.size w)
  by_cases ha : cut a = a
  · have ha' := (cut_self a).1 ha
    have h1 : (a != cut a) = false := by simp [ha]
    by_cases hb : cut b = b
    · have hb' := (cut_self b).1 hb
      have h2 : (b != cut b) = false := by simp [hb]
      have hw : wrap64 (a + b) = a + b := wrap_in _ (by omega) (by omega)
      obtain ⟨s, hs⟩ : ∃ s, wrap64 (a + b) = s := ⟨_, rfl⟩
      by_cases hle : s ≤ 1048576
      · have eV : addV a b = s := by unfold addV; rw [← hs, hw, if_pos (by omega)]
        have eE : addE a b = 0 := by unfold addE; rw [if_pos (by omega), if_pos (by omega)]
        have H := Aside0.mk hs
        rw [eV, eE]
        clear hs hw ha hb eV eE ha' hb'
        go_enter Try.func23, Try.ntmps23
        go_wp2_with (first | (go_at_call 14; refine (cut_any _ _).mono ?_; rintro e w1 ⟨rfl, hb⟩; have n0_ := Aside0.mk (below_step HB.out hb); clear HB hb; have HB := n0_; clear n0_) | (go_at_call 30; refine (sum_any _ _ _).mono ?_; rintro e w1 ⟨rfl, rfl⟩; rw [H.out]) | go_in)
        go_ret2
        exact ⟨rfl, HB.out⟩
      · have eV : addV a b = 0 := by unfold addV; rw [if_neg (by omega)]
        have eE : addE a b = 12 := by unfold addE; rw [if_pos (by omega), if_neg (by omega)]
        have H := Aside0.mk hs
        rw [eV, eE]
        clear hs hw ha hb eV eE ha' hb'
        go_enter Try.func23, Try.ntmps23
        go_wp2_with (first | (go_at_call 14; refine (cut_any _ _).mono ?_; rintro e w1 ⟨rfl, hb⟩; have n0_ := Aside0.mk (below_step HB.out hb); clear HB hb; have HB := n0_; clear n0_) | (go_at_call 30; refine (sum_any _ _ _).mono ?_; rintro e w1 ⟨rfl, rfl⟩; rw [H.out]) | go_in)
        go_ret2
        exact ⟨rfl, HB.out⟩
    · have h2 : (b != cut b) = true := by simp; exact fun h => hb h.symm
      have hb' : ¬ (0 ≤ b ∧ b ≤ 1048576) := fun h => hb ((cut_self b).2 h)
      have eV : addV a b = 0 := by unfold addV; rw [if_neg (by omega)]
      have eE : addE a b = 1 := by unfold addE; rw [if_neg (by omega)]
      rw [eV, eE]
      clear ha hb eV eE ha' hb'
      go_enter Try.func23, Try.ntmps23
      go_wp2_with (first | (go_at_call 14; refine (cut_any _ _).mono ?_; rintro e w1 ⟨rfl, hb⟩; have n0_ := Aside0.mk (below_step HB.out hb); clear HB hb; have HB := n0_; clear n0_) | go_in)
      go_ret2
      exact ⟨rfl, HB.out⟩
  · have h1 : (a != cut a) = true := by simp; exact fun h => ha h.symm
    have ha' : ¬ (0 ≤ a ∧ a ≤ 1048576) := fun h => ha ((cut_self a).2 h)
    have eV : addV a b = 0 := by unfold addV; rw [if_neg (by omega)]
    have eE : addE a b = 1 := by unfold addE; rw [if_neg (by omega)]
    rw [eV, eE]
    clear ha eV eE ha'
    go_enter Try.func23, Try.ntmps23
    go_wp2_with (first | (go_at_call 14; refine (cut_any _ _).mono ?_; rintro e w1 ⟨rfl, hb⟩; have n0_ := Aside0.mk (below_step HB.out hb); clear HB hb; have HB := n0_; clear n0_) | go_in)
    go_ret2
    exact ⟨rfl, HB.out⟩
set_option maxHeartbeats 1000000 in
theorem mul_any (a b : Int) (w : World) : Calls Try.prog 25 #[.int .i64 a, .int .i64 b] w fun e w' => e = .returned (.tuple #[.int .i64 (mulV a b), .int .i64 (mulE a b)]) ∧ Below w.heap.size w w' := by
  have HB := Aside0.mk (Below.refl w.heap.size w)
  by_cases ha : cut a = a
  · have ha' := (cut_self a).1 ha
    have h1 : (a != cut a) = false := by simp [ha]
    by_cases hb : cut b = b
    · have hb' := (cut_self b).1 hb
      have h2 : (b != cut b) = false := by simp [hb]
      have hm := mul_bounds a b ha'.1 ha'.2 hb'.1 hb'.2
      have hw : wrap64 (a * b) = a * b := wrap_in _ (by omega) (by omega)
      obtain ⟨s, hs⟩ : ∃ s, wrap64 (a * b) = s := ⟨_, rfl⟩
      by_cases hle : s ≤ 1048576
      · have eV : mulV a b = s := by unfold mulV; rw [← hs, hw, if_pos (by omega)]
        have eE : mulE a b = 0 := by unfold mulE; rw [if_pos (by omega), if_pos (by omega)]
        have H := Aside0.mk hs
        rw [eV, eE]
        clear hs hw hm ha hb eV eE ha' hb'
        go_enter Try.func25, Try.ntmps25
        go_wp2_with (first | (go_at_call 14; refine (cut_any _ _).mono ?_; rintro e w1 ⟨rfl, hb⟩; have n0_ := Aside0.mk (below_step HB.out hb); clear HB hb; have HB := n0_; clear n0_) | (go_at_call 31; refine (product_any _ _ _).mono ?_; rintro e w1 ⟨rfl, rfl⟩; rw [H.out]) | go_in)
        go_ret2
        exact ⟨rfl, HB.out⟩
      · have eV : mulV a b = 0 := by unfold mulV; rw [if_neg (by omega)]
        have eE : mulE a b = 12 := by unfold mulE; rw [if_pos (by omega), if_neg (by omega)]
        have H := Aside0.mk hs
        rw [eV, eE]
        clear hs hw hm ha hb eV eE ha' hb'
        go_enter Try.func25, Try.ntmps25
        go_wp2_with (first | (go_at_call 14; refine (cut_any _ _).mono ?_; rintro e w1 ⟨rfl, hb⟩; have n0_ := Aside0.mk (below_step HB.out hb); clear HB hb; have HB := n0_; clear n0_) | (go_at_call 31; refine (product_any _ _ _).mono ?_; rintro e w1 ⟨rfl, rfl⟩; rw [H.out]) | go_in)
        go_ret2
        exact ⟨rfl, HB.out⟩
    · have h2 : (b != cut b) = true := by simp; exact fun h => hb h.symm
      have hb' : ¬ (0 ≤ b ∧ b ≤ 1048576) := fun h => hb ((cut_self b).2 h)
      have eV : mulV a b = 0 := by unfold mulV; rw [if_neg (by omega)]
      have eE : mulE a b = 1 := by unfold mulE; rw [if_neg (by omega)]
      rw [eV, eE]
      clear ha hb eV eE ha' hb'
      go_enter Try.func25, Try.ntmps25
      go_wp2_with (first | (go_at_call 14; refine (cut_any _ _).mono ?_; rintro e w1 ⟨rfl, hb⟩; have n0_ := Aside0.mk (below_step HB.out hb); clear HB hb; have HB := n0_; clear n0_) | go_in)
      go_ret2
      exact ⟨rfl, HB.out⟩
  · have h1 : (a != cut a) = true := by simp; exact fun h => ha h.symm
    have ha' : ¬ (0 ≤ a ∧ a ≤ 1048576) := fun h => ha ((cut_self a).2 h)
    have eV : mulV a b = 0 := by unfold mulV; rw [if_neg (by omega)]
    have eE : mulE a b = 1 := by unfold mulE; rw [if_neg (by omega)]
    rw [eV, eE]
    clear ha eV eE ha'
    go_enter Try.func25, Try.ntmps25
    go_wp2_with (first | (go_at_call 14; refine (cut_any _ _).mono ?_; rintro e w1 ⟨rfl, hb⟩; have n0_ := Aside0.mk (below_step HB.out hb); clear HB hb; have HB := n0_; clear n0_) | go_in)
    go_ret2
    exact ⟨rfl, HB.out⟩
end Go.Proofs.Ytldanidookkmaaa.A1
