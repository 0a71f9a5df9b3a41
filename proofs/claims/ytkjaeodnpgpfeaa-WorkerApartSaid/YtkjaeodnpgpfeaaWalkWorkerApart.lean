/-
  Proved here: what pacesetterlaw16.WorkerApart returns, whatever the input: true. No condition.
-/
import Derived.Test.YtkjaeodnpgpfeaaW4
namespace Go.Proofs.Ytkjaeodnpgpfeaa.WalkWorkerApart
open Go.RowKit Go.Maps Go.Sort Go.Shelf Go.Proofs.Ytkjaeodnpgpfeaa.M Go.Proofs.Ytkjaeodnpgpfeaa.S0 Go.Proofs.Ytkjaeodnpgpfeaa.S4 Go.Proofs.Ytkjaeodnpgpfeaa.W0 Go.Proofs.YtkjaeodnpgpfeaaW.PrintWords Go.Proofs.YtkjaeodnpgpfeaaW.PrintLast Go.Proofs.YtkjaeodnpgpfeaaW.PrintMore Go.Proofs.Ytkjaeodnpgpfeaa.W1 Go.Proofs.Ytkjaeodnpgpfeaa.W2 Go.Proofs.Ytkjaeodnpgpfeaa.W3 Go.Proofs.Ytkjaeodnpgpfeaa.W4
set_option linter.unusedVariables false
set_option linter.unusedSimpArgs false
attribute [local go_sem] max2_int min2_int max_two min_two run_makeMap

/-- How many units the workers below i have. -/
def below (i n : Nat) : Nat := ((List.range 16).filter (fun k => decide (k % n < i))).length
theorem below_step_all : ((List.range 17).all fun n => (List.range n).all fun i => decide ((ownL (fresh (i : Int) (n : Int) 16)).length + below i n = below (i + 1) n)) = true := by kernel_rfl
theorem below_end_all : ((List.range 17).all fun n => decide (n = 0 ∨ below n n = 16)) = true := by kernel_rfl
theorem below_zero (n : Nat) : below 0 n = 0 := by simp [below]
theorem below_next (i n : Nat) (h : i < n) (h1 : n ≤ 16) : (ownL (fresh (i : Int) (n : Int) 16)).length + below i n = below (i + 1) n := by
  have h2 := List.all_eq_true.1 below_step_all n (by simp; omega)
  have h3 := List.all_eq_true.1 h2 i (by simp; omega)
  exact of_decide_eq_true h3
theorem below_end (n : Nat) (h : 1 ≤ n) (h1 : n ≤ 16) : below n n = 16 := by
  have h2 := List.all_eq_true.1 below_end_all n (by simp; omega)
  have h3 := of_decide_eq_true h2
  omega
theorem below_le (i n : Nat) : below i n ≤ 16 := by
  have := List.length_filter_le (fun k => decide (k % n < i)) (List.range 16)
  simpa [below] using this
/-- Does a worker below i have the unit? -/
def did (u : Int) (i n : Nat) : Nat := if u % (n : Int) < (i : Int) then 1 else 0
theorem apply_own (a b c d e : Int) (i n : Nat) (h1 : 0 ≤ a) (h2 : 1 ≤ b) (h3 : 0 ≤ c ∧ c < 8) (h4 : 0 ≤ d) (h5 : 0 ≤ e) (hu : c % (n : Int) = (i : Int)) : (applyV 0 (fresh (i : Int) (n : Int) 16) 1 a b c d e).1 = 0 := by
  unfold applyV
  rw [if_neg (by unfold lowM mn; intro h; rcases h with h | h; exact h rfl; revert h; (repeat' split) <;> omega)]
  have hf : fresh (i : Int) (n : Int) 16 c = some zs := by unfold fresh; rw [if_pos ⟨h3.1, by omega, by omega, hu⟩]
  rw [hf]
  dsimp only
  rw [if_neg (by omega)]
  have hw : (wants zs d b).2 = true := by
    unfold wants
    rw [if_pos ⟨by kernel_rfl, h4, show (0 : Int) < b by omega⟩, if_neg (by rintro ⟨h, _⟩; exact h rfl)]
  rw [if_pos hw]
theorem apply_other (a b c d e : Int) (i n : Nat) (h1 : 0 ≤ a) (h2 : 1 ≤ b) (h3 : 0 ≤ c ∧ c < 8) (h4 : 0 ≤ d) (h5 : 0 ≤ e) (hu : c % (n : Int) ≠ (i : Int)) : (applyV 0 (fresh (i : Int) (n : Int) 16) 1 a b c d e).1 = 5 := by
  unfold applyV
  rw [if_neg (by unfold lowM mn; intro h; rcases h with h | h; exact h rfl; revert h; (repeat' split) <;> omega)]
  have hf : fresh (i : Int) (n : Int) 16 c = none := by unfold fresh; rw [if_neg (by rintro ⟨_, _, _, h⟩; exact hu h)]
  rw [hf]
theorem did_step (u : Int) (i n : Nat) (hu : u % (n : Int) = (i : Int)) : did u i n = 0 ∧ did u (i + 1) n = 1 := by unfold did; constructor; rw [if_neg (by omega)]; rw [if_pos (by omega)]
theorem did_same (u : Int) (i n : Nat) (hu : u % (n : Int) ≠ (i : Int)) : did u (i + 1) n = did u i n := by
  unfold did
  by_cases h : u % (n : Int) < (i : Int)
  · rw [if_pos h, if_pos (by omega)]
  · rw [if_neg h, if_neg (by omega)]
theorem did_end (u : Int) (n : Nat) (h : 1 ≤ n) : did u n n = 1 := by
  unfold did
  rw [if_pos (Int.emod_lt_of_pos _ (by omega))]
theorem did_le (u : Int) (i n : Nat) : did u i n ≤ 1 := by unfold did; split <;> omega
theorem did_zero (u : Int) (n : Nat) (h : 1 ≤ n) : did u 0 n = 0 := by
  unfold did
  rw [if_neg (by have := Int.emod_nonneg u (show (n : Int) ≠ 0 by omega); omega)]
theorem meas_up (i N : Nat) (h : i < N) (h1 : N ≤ 16) (a b : Int) (ha : b = (i : Int)) (hb : a = (i : Int) + 1) : 40 - a.toNat < 40 - b.toNat := by omega
theorem many_in (m : Int) : ∃ n : Nat, 1 ≤ n ∧ n ≤ 16 ∧ wrap64 (1 + wrap64 ((IntKind.u64.wrap m).tmod 16)) = (n : Int) := by
  rw [raw_near m 16 (by decide) (by decide)]
  have := near_bounds m 16 (by decide)
  refine ⟨(1 + near m 16).toNat, by omega, by omega, ?_⟩
  rw [wrap64_eq (by omega) (by omega)]
  omega
set_option maxRecDepth 100000 in
set_option maxHeartbeats 8000000 in
theorem walk (k m0 m1 m2 m3 m4 m5 : Int) (w : World) (hwf : (Lit.int .i64 k).wf = true) : Calls Try.prog 4 #[.int .i64 k, .agg #[.int .i64 m0, .int .i64 m1, .int .i64 m2, .int .i64 m3, .int .i64 m4, .int .i64 m5]] w fun e w' => e = .returned (.bool true) ∧ Below w.heap.size w w' := by
  obtain ⟨N, hN1, hN2, hN⟩ := many_in k
  have HN : Aside0 (1 ≤ N ∧ N ≤ 16) := ⟨⟨hN1, hN2⟩⟩
  clear hN1 hN2
  clear hwf
  have HB := Aside0.mk (Below.refl w.heap.size w)
  go_enter Try.func4, Try.ntmps4
  go_wp2_with fail
  refine (lives_q _).mono ?_
  rintro e w1 ⟨rfl, hb1⟩
  have M : IsBlk w1 w.heap.size #[.int .i64 m0, .int .i64 m1, .int .i64 m2, .int .i64 m3, .int .i64 m4, .int .i64 m5] 26 := IsBlk.below (by repeat (first | ((refine IsBlk.new _ _ ?_); (first | rfl | simp); done) | apply IsBlk.alloc | apply IsBlk.drewN | apply IsBlk.drew)) hb1
  have M_0 := blk_cell M 0
  have M_1 := blk_cell M 1
  have M_2 := blk_cell M 2
  have M_3 := blk_cell M 3
  have M_4 := blk_cell M 4
  have M_5 := blk_cell M 5
  simp only [List.getElem?_toArray, List.getElem?_cons_zero, List.getElem?_cons_succ] at M_0 M_1 M_2 M_3 M_4 M_5
  have M_z0 := blk_frozen M 0
  have M_z1 := blk_frozen M 1
  have M_z2 := blk_frozen M 2
  have M_z3 := blk_frozen M 3
  have M_z4 := blk_frozen M 4
  have M_z5 := blk_frozen M 5
  have M_l := blk_lt M
  have HM := Aside0.mk M
  clear M
  have n0 := Aside0.mk (below_step (by repeat (first | (with_reducible first | exact HB.out | apply below_alloc | apply pw_below_drewN | apply below_drew1) | refine below_set ?_ (by omega))) hb1)
  clear HB hb1
  have HB := n0
  clear n0
  go_wp2_with fail
  rw [hN]
  refine (good_q m0 m1 m2 m3 m4 m5 _).mono ?_
  rintro e w2 ⟨rfl, hb1⟩
  have M' := IsBlk.below (by repeat (with_reducible first | exact HM.out | apply IsBlk.alloc | apply IsBlk.drewN | apply IsBlk.drew)) hb1
  clear M_0 M_1 M_2 M_3 M_4 M_5 M_z0 M_z1 M_z2 M_z3 M_z4 M_z5 M_l HM
  have M := M'
  clear M' hN
  have M_0 := blk_cell M 0
  have M_1 := blk_cell M 1
  have M_2 := blk_cell M 2
  have M_3 := blk_cell M 3
  have M_4 := blk_cell M 4
  have M_5 := blk_cell M 5
  simp only [List.getElem?_toArray, List.getElem?_cons_zero, List.getElem?_cons_succ] at M_0 M_1 M_2 M_3 M_4 M_5
  have M_z0 := blk_frozen M 0
  have M_z1 := blk_frozen M 1
  have M_z2 := blk_frozen M 2
  have M_z3 := blk_frozen M 3
  have M_z4 := blk_frozen M 4
  have M_z5 := blk_frozen M 5
  have M_l := blk_lt M
  have HM := Aside0.mk M
  clear M
  have n0 := Aside0.mk (below_step (by repeat (first | (with_reducible first | exact HB.out | apply below_alloc | apply pw_below_drewN | apply below_drew1) | refine below_set ?_ (by omega))) hb1)
  clear HB hb1
  have HB := n0
  clear n0
  have hs : wrap64 (g8 m2 + 1) = g8 m2 + 1 := wrap64_eq (by have := g8_in m2; omega) (by have := g8_in m2; omega)
  go_wp2_with fail
  simp only [hs]
  have hs' := Aside0.mk hs
  clear hs
  go_loopw [5, 6, 7] (fun v5 v6 v7 wr => ∃ (i : Nat), v7 = .int .i64 (i : Int) ∧ v5 = .int .i64 (below i N : Int) ∧ v6 = .int .i64 (did (g8 m3) i N : Int) ∧ Aside0 (i ≤ N) ∧ Aside0 (IsBlk wr w.heap.size #[.int .i64 1, .int .i64 (g8 m1), .int .i64 (g8 m2 + 1), .int .i64 (g8 m3), .int .i64 (g4 m4), .int .i64 (g5 m5)] 26) ∧ Aside0 (Below w.heap.size w wr)) (fun _ _ v7 _ => 40 - (intOf v7).toNat)
  case atStart =>
    have b0 := HM.out
    have b1 : IsBlk (w2.setCell ⟨w.heap.size, 0, none⟩ (.int .i64 (gk m0))) w.heap.size #[.int .i64 (gk m0), .int .i64 (m1), .int .i64 (m2), .int .i64 (m3), .int .i64 (m4), .int .i64 (m5)] 26 := blk_set b0 0 (.int .i64 (gk m0))
    have b2 : IsBlk ((w2.setCell ⟨w.heap.size, 0, none⟩ (.int .i64 (gk m0))).setCell ⟨w.heap.size, 1, none⟩ (.int .i64 (g8 m1))) w.heap.size #[.int .i64 (gk m0), .int .i64 (g8 m1), .int .i64 (m2), .int .i64 (m3), .int .i64 (m4), .int .i64 (m5)] 26 := blk_set b1 1 (.int .i64 (g8 m1))
    have b3 : IsBlk (((w2.setCell ⟨w.heap.size, 0, none⟩ (.int .i64 (gk m0))).setCell ⟨w.heap.size, 1, none⟩ (.int .i64 (g8 m1))).setCell ⟨w.heap.size, 2, none⟩ (.int .i64 (g8 m2))) w.heap.size #[.int .i64 (gk m0), .int .i64 (g8 m1), .int .i64 (g8 m2), .int .i64 (m3), .int .i64 (m4), .int .i64 (m5)] 26 := blk_set b2 2 (.int .i64 (g8 m2))
    have b4 : IsBlk ((((w2.setCell ⟨w.heap.size, 0, none⟩ (.int .i64 (gk m0))).setCell ⟨w.heap.size, 1, none⟩ (.int .i64 (g8 m1))).setCell ⟨w.heap.size, 2, none⟩ (.int .i64 (g8 m2))).setCell ⟨w.heap.size, 3, none⟩ (.int .i64 (g8 m3))) w.heap.size #[.int .i64 (gk m0), .int .i64 (g8 m1), .int .i64 (g8 m2), .int .i64 (g8 m3), .int .i64 (m4), .int .i64 (m5)] 26 := blk_set b3 3 (.int .i64 (g8 m3))
    have b5 : IsBlk (((((w2.setCell ⟨w.heap.size, 0, none⟩ (.int .i64 (gk m0))).setCell ⟨w.heap.size, 1, none⟩ (.int .i64 (g8 m1))).setCell ⟨w.heap.size, 2, none⟩ (.int .i64 (g8 m2))).setCell ⟨w.heap.size, 3, none⟩ (.int .i64 (g8 m3))).setCell ⟨w.heap.size, 4, none⟩ (.int .i64 (g4 m4))) w.heap.size #[.int .i64 (gk m0), .int .i64 (g8 m1), .int .i64 (g8 m2), .int .i64 (g8 m3), .int .i64 (g4 m4), .int .i64 (m5)] 26 := blk_set b4 4 (.int .i64 (g4 m4))
    have b6 : IsBlk ((((((w2.setCell ⟨w.heap.size, 0, none⟩ (.int .i64 (gk m0))).setCell ⟨w.heap.size, 1, none⟩ (.int .i64 (g8 m1))).setCell ⟨w.heap.size, 2, none⟩ (.int .i64 (g8 m2))).setCell ⟨w.heap.size, 3, none⟩ (.int .i64 (g8 m3))).setCell ⟨w.heap.size, 4, none⟩ (.int .i64 (g4 m4))).setCell ⟨w.heap.size, 5, none⟩ (.int .i64 (g5 m5))) w.heap.size #[.int .i64 (gk m0), .int .i64 (g8 m1), .int .i64 (g8 m2), .int .i64 (g8 m3), .int .i64 (g4 m4), .int .i64 (g5 m5)] 26 := blk_set b5 5 (.int .i64 (g5 m5))
    have b7 : IsBlk (((((((w2.setCell ⟨w.heap.size, 0, none⟩ (.int .i64 (gk m0))).setCell ⟨w.heap.size, 1, none⟩ (.int .i64 (g8 m1))).setCell ⟨w.heap.size, 2, none⟩ (.int .i64 (g8 m2))).setCell ⟨w.heap.size, 3, none⟩ (.int .i64 (g8 m3))).setCell ⟨w.heap.size, 4, none⟩ (.int .i64 (g4 m4))).setCell ⟨w.heap.size, 5, none⟩ (.int .i64 (g5 m5))).setCell ⟨w.heap.size, 0, none⟩ (.int .i64 (1))) w.heap.size #[.int .i64 (1), .int .i64 (g8 m1), .int .i64 (g8 m2), .int .i64 (g8 m3), .int .i64 (g4 m4), .int .i64 (g5 m5)] 26 := blk_set b6 0 (.int .i64 (1))
    have b8 : IsBlk ((((((((w2.setCell ⟨w.heap.size, 0, none⟩ (.int .i64 (gk m0))).setCell ⟨w.heap.size, 1, none⟩ (.int .i64 (g8 m1))).setCell ⟨w.heap.size, 2, none⟩ (.int .i64 (g8 m2))).setCell ⟨w.heap.size, 3, none⟩ (.int .i64 (g8 m3))).setCell ⟨w.heap.size, 4, none⟩ (.int .i64 (g4 m4))).setCell ⟨w.heap.size, 5, none⟩ (.int .i64 (g5 m5))).setCell ⟨w.heap.size, 0, none⟩ (.int .i64 (1))).setCell ⟨w.heap.size, 2, none⟩ (.int .i64 (g8 m2 + 1))) w.heap.size #[.int .i64 (1), .int .i64 (g8 m1), .int .i64 (g8 m2 + 1), .int .i64 (g8 m3), .int .i64 (g4 m4), .int .i64 (g5 m5)] 26 := blk_set b7 2 (.int .i64 (g8 m2 + 1))
    refine ⟨0, rfl, ?_, ?_, ⟨Nat.zero_le _⟩, ⟨b8⟩, ⟨by repeat (first | (with_reducible first | exact HB.out | apply below_alloc | apply pw_below_drewN | apply below_drew1) | refine below_set ?_ (by omega))⟩⟩
    · rw [below_zero]; rfl
    · rw [did_zero _ _ HN.out.1]; rfl
  case round =>
    clear HB
    clear M_0 M_1 M_2 M_3 M_4 M_5 M_z0 M_z1 M_z2 M_z3 M_z4 M_z5 M_l HM
    obtain ⟨i, hv7, rfl, rfl, HI, HM0, HB⟩ := hrel
    obtain ⟨I, hI⟩ : ∃ I : Int, (i : Int) = I := ⟨_, rfl⟩
    rw [hI] at hv7
    subst hv7
    have HIc := Aside0.mk hI
    obtain ⟨wq, hwq⟩ : ∃ x, x = wr := ⟨_, rfl⟩
    subst hwq
    obtain ⟨h16, h16'⟩ := HN.out
    by_cases hi : i < N
    · have t1 : decide (I < (N : Int)) = true := decide_eq_true (by omega)
      have M := HM0.out
      clear HM0
      have M_0 := blk_cell M 0
      have M_1 := blk_cell M 1
      have M_2 := blk_cell M 2
      have M_3 := blk_cell M 3
      have M_4 := blk_cell M 4
      have M_5 := blk_cell M 5
      simp only [List.getElem?_toArray, List.getElem?_cons_zero, List.getElem?_cons_succ] at M_0 M_1 M_2 M_3 M_4 M_5
      have M_z0 := blk_frozen M 0
      have M_z1 := blk_frozen M 1
      have M_z2 := blk_frozen M 2
      have M_z3 := blk_frozen M 3
      have M_z4 := blk_frozen M 4
      have M_z5 := blk_frozen M 5
      have M_l := blk_lt M
      have HM := Aside0.mk M
      clear M
      have HML := Aside0.mk M_l
      go_wp2_with fail
      clear hI
      refine (new_q I (N : Int) _ (by omega) (by omega) (by have := HIc.out; omega) (by have := HIc.out; omega)).mono ?_
      rintro e w3 ⟨rfl, hk, hb1⟩
      have M' := IsBlk.below (by repeat (with_reducible first | exact HM.out | apply IsBlk.alloc | apply IsBlk.drewN | apply IsBlk.drew)) hb1
      clear M_0 M_1 M_2 M_3 M_4 M_5 M_z0 M_z1 M_z2 M_z3 M_z4 M_z5 M_l HM
      have M := M'
      clear M'
      have M_0 := blk_cell M 0
      have M_1 := blk_cell M 1
      have M_2 := blk_cell M 2
      have M_3 := blk_cell M 3
      have M_4 := blk_cell M 4
      have M_5 := blk_cell M 5
      simp only [List.getElem?_toArray, List.getElem?_cons_zero, List.getElem?_cons_succ] at M_0 M_1 M_2 M_3 M_4 M_5
      have M_z0 := blk_frozen M 0
      have M_z1 := blk_frozen M 1
      have M_z2 := blk_frozen M 2
      have M_z3 := blk_frozen M 3
      have M_z4 := blk_frozen M 4
      have M_z5 := blk_frozen M 5
      have M_l := blk_lt M
      have HM := Aside0.mk M
      clear M
      have HK := Aside0.mk hk
      clear hk
      have n0 := Aside0.mk (below_step (by repeat (first | (with_reducible first | exact HB.out | apply below_alloc | apply pw_below_drewN | apply below_drew1) | refine below_set ?_ (by omega))) hb1)
      clear HB hb1
      have HB := n0
      clear n0
      go_wp2_with fail
      refine (units_q _ _ 0 _ _ (by repeat (with_reducible first | exact HK.out | apply Wk.alloc | apply Wk.drewN | apply Wk.drew))).mono ?_
      rintro e w4 ⟨A, c, rfl, _, _, hb1⟩
      have M' := IsBlk.below (by repeat (with_reducible first | exact HM.out | apply IsBlk.alloc | apply IsBlk.drewN | apply IsBlk.drew)) hb1
      clear M_0 M_1 M_2 M_3 M_4 M_5 M_z0 M_z1 M_z2 M_z3 M_z4 M_z5 M_l HM
      have M := M'
      clear M'
      have M_0 := blk_cell M 0
      have M_1 := blk_cell M 1
      have M_2 := blk_cell M 2
      have M_3 := blk_cell M 3
      have M_4 := blk_cell M 4
      have M_5 := blk_cell M 5
      simp only [List.getElem?_toArray, List.getElem?_cons_zero, List.getElem?_cons_succ] at M_0 M_1 M_2 M_3 M_4 M_5
      have M_z0 := blk_frozen M 0
      have M_z1 := blk_frozen M 1
      have M_z2 := blk_frozen M 2
      have M_z3 := blk_frozen M 3
      have M_z4 := blk_frozen M 4
      have M_z5 := blk_frozen M 5
      have M_l := blk_lt M
      have HM := Aside0.mk M
      clear M
      have HK' := Aside0.mk (Wk.below (by repeat (with_reducible first | exact HK.out | apply Wk.alloc | apply Wk.drewN | apply Wk.drew)) hb1)
      clear HK
      have n0 := Aside0.mk (below_step (by repeat (first | (with_reducible first | exact HB.out | apply below_alloc | apply pw_below_drewN | apply below_drew1) | refine below_set ?_ (by omega))) hb1)
      clear HB hb1
      have HB := n0
      clear n0
      have hsum := below_next i N hi h16'
      rw [HIc.out] at hsum
      have hsl := below_le i N
      have hsl2 := below_le (i + 1) N
      have hw1 : wrap64 ((below i N : Int) + ((ownL (fresh I (N : Int) 16)).length : Int)) = (below (i + 1) N : Int) := by rw [wrap64_eq (by omega) (by omega)]; omega
      have hdl := did_le (g8 m3) i N
      have hw2 : wrap64 ((did (g8 m3) i N : Int) + 1) = (did (g8 m3) i N : Int) + 1 := wrap64_eq (by omega) (by omega)
      have hw3 : wrap64 (I + 1) = I + 1 := wrap64_eq (by have := HIc.out; omega) (by have := HIc.out; omega)
      clear hsum hsl hsl2 hdl
      go_wp2_with fail
      refine (apply_q _ _ 0 _ 1 (g8 m1) (g8 m2 + 1) (g8 m3) (g4 m4) (g5 m5) _ (by repeat (with_reducible first | exact HK'.out | apply Wk.alloc | apply Wk.drewN | apply Wk.drew))).mono ?_
      by_cases hu : g8 m3 % (N : Int) = (i : Int)
      · have ha := apply_own (g8 m1) (g8 m2 + 1) (g8 m3) (g4 m4) (g5 m5) i N (g8_in m1).1 (by have := (g8_in m2).1; omega) (g8_in m3) (g4_in m4).1 (g5_in m5).1 hu
        rw [HIc.out] at ha
        rw [ha]
        clear ha
        rintro e w5 ⟨rfl, _, hbt⟩
        have HU := Aside0.mk hu
        have HII := Aside0.mk hi
        have H16 := Aside0.mk (And.intro h16 h16')
        have HW1 := Aside0.mk hw1
        clear hu hi hw1 h16 h16'
        have M' := IsBlk.but (by repeat (with_reducible first | exact HM.out | apply IsBlk.alloc | apply IsBlk.drewN | apply IsBlk.drew)) hbt (by have := HML.out; omega) (by have := HML.out; omega)
        clear M_0 M_1 M_2 M_3 M_4 M_5 M_z0 M_z1 M_z2 M_z3 M_z4 M_z5 M_l HM
        have M := M'
        clear M'
        have M_0 := blk_cell M 0
        have M_1 := blk_cell M 1
        have M_2 := blk_cell M 2
        have M_3 := blk_cell M 3
        have M_4 := blk_cell M 4
        have M_5 := blk_cell M 5
        simp only [List.getElem?_toArray, List.getElem?_cons_zero, List.getElem?_cons_succ] at M_0 M_1 M_2 M_3 M_4 M_5
        have M_z0 := blk_frozen M 0
        have M_z1 := blk_frozen M 1
        have M_z2 := blk_frozen M 2
        have M_z3 := blk_frozen M 3
        have M_z4 := blk_frozen M 4
        have M_z5 := blk_frozen M 5
        have M_l := blk_lt M
        have HM := Aside0.mk M
        clear M
        have n0 := Aside0.mk (But2.after (by repeat (first | (with_reducible first | exact HB.out | apply below_alloc | apply pw_below_drewN | apply below_drew1) | refine below_set ?_ (by omega))) hbt (by have := HML.out; omega) (by have := HML.out; omega))
        clear HB hbt
        have HB := n0
        clear n0
        go_wp2
        go_roundw
        case rel =>
          have hd := did_step (g8 m3) i N HU.out
          exact ⟨i + 1, by rw [hw3, ← HIc.out]; push_cast; rfl, by rw [HW1.out], by rw [hw2, hd.1, hd.2]; rfl, ⟨HII.out⟩, ⟨HM.out⟩, HB⟩
        case measure => exact meas_up i N HII.out H16.out.2 _ _ HIc.out.symm (hw3.trans (by rw [HIc.out]))
      · have ha := apply_other (g8 m1) (g8 m2 + 1) (g8 m3) (g4 m4) (g5 m5) i N (g8_in m1).1 (by have := (g8_in m2).1; omega) (g8_in m3) (g4_in m4).1 (g5_in m5).1 hu
        rw [HIc.out] at ha
        rw [ha]
        clear ha
        rintro e w5 ⟨rfl, _, hbt⟩
        have HU := Aside0.mk hu
        have HII := Aside0.mk hi
        have H16 := Aside0.mk (And.intro h16 h16')
        have HW1 := Aside0.mk hw1
        clear hu hi hw1 h16 h16'
        have M' := IsBlk.but (by repeat (with_reducible first | exact HM.out | apply IsBlk.alloc | apply IsBlk.drewN | apply IsBlk.drew)) hbt (by have := HML.out; omega) (by have := HML.out; omega)
        clear M_0 M_1 M_2 M_3 M_4 M_5 M_z0 M_z1 M_z2 M_z3 M_z4 M_z5 M_l HM
        have M := M'
        clear M'
        have M_0 := blk_cell M 0
        have M_1 := blk_cell M 1
        have M_2 := blk_cell M 2
        have M_3 := blk_cell M 3
        have M_4 := blk_cell M 4
        have M_5 := blk_cell M 5
        simp only [List.getElem?_toArray, List.getElem?_cons_zero, List.getElem?_cons_succ] at M_0 M_1 M_2 M_3 M_4 M_5
        have M_z0 := blk_frozen M 0
        have M_z1 := blk_frozen M 1
        have M_z2 := blk_frozen M 2
        have M_z3 := blk_frozen M 3
        have M_z4 := blk_frozen M 4
        have M_z5 := blk_frozen M 5
        have M_l := blk_lt M
        have HM := Aside0.mk M
        clear M
        have n0 := Aside0.mk (But2.after (by repeat (first | (with_reducible first | exact HB.out | apply below_alloc | apply pw_below_drewN | apply below_drew1) | refine below_set ?_ (by omega))) hbt (by have := HML.out; omega) (by have := HML.out; omega))
        clear HB hbt
        have HB := n0
        clear n0
        go_wp2
        go_roundw
        case rel => exact ⟨i + 1, by rw [hw3, ← HIc.out]; push_cast; rfl, by rw [HW1.out], by rw [did_same (g8 m3) i N HU.out], ⟨HII.out⟩, ⟨HM.out⟩, HB⟩
        case measure => exact meas_up i N HII.out H16.out.2 _ _ HIc.out.symm (hw3.trans (by rw [HIc.out]))
    · have t1 : decide (I < (N : Int)) = false := decide_eq_false (by omega)
      obtain rfl : i = N := by have := HI.out; omega
      rw [below_end i h16 h16', did_end _ i h16]
      go_wp2
      go_ret
      exact ⟨rfl, by repeat (first | (with_reducible first | exact HB.out | apply below_alloc | apply pw_below_drewN | apply below_drew1) | refine below_set ?_ (by omega))⟩
end Go.Proofs.Ytkjaeodnpgpfeaa.WalkWorkerApart
