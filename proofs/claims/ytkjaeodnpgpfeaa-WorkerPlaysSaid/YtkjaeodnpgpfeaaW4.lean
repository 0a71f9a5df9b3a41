/-
  Proved here: the example of the law package is true; Count and Fall of a worker that isn't there; what a good message is. No condition.
-/
import Derived.Test.YtkjaeodnpgpfeaaW3
import Derived.Test.YtkjaeodnpgpfeaaPWorkerPlaysx8
namespace Go.Proofs.Ytkjaeodnpgpfeaa.W4
open Go.RowKit Go.Maps Go.Sort Go.Shelf Go.Proofs.Ytkjaeodnpgpfeaa.M Go.Proofs.Ytkjaeodnpgpfeaa.S0 Go.Proofs.Ytkjaeodnpgpfeaa.S4 Go.Proofs.Ytkjaeodnpgpfeaa.W0 Go.Proofs.YtkjaeodnpgpfeaaW.PrintWords Go.Proofs.YtkjaeodnpgpfeaaW.PrintLast Go.Proofs.YtkjaeodnpgpfeaaW.PrintMore Go.Proofs.Ytkjaeodnpgpfeaa.W1 Go.Proofs.Ytkjaeodnpgpfeaa.W2 Go.Proofs.Ytkjaeodnpgpfeaa.W3
set_option linter.unusedVariables false
set_option linter.unusedSimpArgs false
attribute [local go_sem] max2_int min2_int max_two min_two run_makeMap

theorem same_q (A0 A1 : Option Addr) (c0 c1 : Nat) (l : List Int) (w : World) (h0 : Kd.C (Kd.int .i64) w A0 l.length l) (hc0 : l.length ≤ c0) (h1 : Kd.C (Kd.int .i64) w A1 l.length l) (hc1 : l.length ≤ c1) (k : Nat) (hk : PWorkerPlays.pacesetterref01_Same.f k l l = some true) :
    Calls Try.prog 25 #[.slice A0 l.length c0, .slice A1 l.length c1] w fun e w' => e = .returned (.bool true) ∧ Below w.heap.size w w' :=
  (PWorkerPlays.pacesetterref01_Same.calls k A0 c0 l A1 c1 l true w h0 hc0 h1 hc1 hk).mono fun _ _ h => ⟨h.1, h.2.below⟩
theorem C_lit (W : World) (t : TypeId) (xs : List Int) (hm : xs.length ≤ 100) : Kd.C (Kd.int .i64) (W.alloc (.cells (xs.map (Value.int .i64)).toArray t)) (some ⟨W.heap.size, 0, none⟩) xs.length xs := by
  refine ⟨rfl, by omega, fun _ => ⟨_, rfl, fun j p hj => ⟨[.int .i64 p], rfl, rfl, fun i u hu => ?_⟩⟩⟩
  cases i with
  | zero =>
    have e : u = .int .i64 p := by simpa using hu.symm
    subst e
    have h := blk_cell (heap_alloc_new W (.cells (xs.map (Value.int .i64)).toArray t)) j
    have hadd : (⟨W.heap.size, 0, none⟩ : Addr).add (j * (Kd.int .i64).sz + 0) = ⟨W.heap.size, j, none⟩ := by
      rw [show j * (Kd.int .i64).sz + 0 = j by simp [Kd.int, Kd.scalar]]
      unfold Addr.add
      split <;> simp_all
    rw [hadd, h]
    simp [hj]
  | succ i => simp at hu
theorem odd_own : ownL (fresh 1 2 16) = [1, 3, 5, 7, 9, 11, 13, 15] := by kernel_rfl
set_option maxRecDepth 100000 in
set_option maxHeartbeats 4000000 in
theorem lives_q (w : World) : Calls Try.prog 9 #[] w fun e w' => e = .returned (.bool true) ∧ Below w.heap.size w w' := by
  have HB := Aside0.mk (Below.refl w.heap.size w)
  go_enter Try.func9, Try.ntmps9
  go_wp2_with fail
  refine (new_q 1 2 _ (by decide) (by decide) (by decide) (by decide)).mono ?_
  rintro e w1 ⟨rfl, hk, hb1⟩
  have HK := Aside0.mk hk
  clear hk
  have n0 := Aside0.mk (below_step (by repeat (first | (with_reducible first | exact HB.out | apply below_alloc | apply pw_below_drewN | apply below_drew1) | refine below_set ?_ (by omega))) hb1)
  clear HB hb1
  have HB := n0
  clear n0
  go_wp2_with fail
  refine (new_no 2 2 _ false false false true (by decide) (by decide) (by decide) (by decide) rfl).mono ?_
  rintro e w2 ⟨rfl, hb1⟩
  have HK' := Aside0.mk (Wk.below (by repeat (with_reducible first | exact HK.out | apply Wk.alloc | apply Wk.drewN | apply Wk.drew)) hb1)
  clear HK
  have n0 := Aside0.mk (below_step (by repeat (first | (with_reducible first | exact HB.out | apply below_alloc | apply pw_below_drewN | apply below_drew1) | refine below_set ?_ (by omega))) hb1)
  clear HB hb1
  have HB := n0
  clear n0
  go_wp2_with fail
  refine (units_q _ _ 0 _ _ (by repeat (with_reducible first | exact HK'.out | apply Wk.alloc | apply Wk.drewN | apply Wk.drew))).mono ?_
  rw [odd_own]
  rintro e w3 ⟨A, c, rfl, hlc, hC, hb1⟩
  have HC := Aside0.mk hC
  have HLc := Aside0.mk hlc
  clear hC hlc HK'
  have n0 := Aside0.mk (below_step (by repeat (first | (with_reducible first | exact HB.out | apply below_alloc | apply pw_below_drewN | apply below_drew1) | refine below_set ?_ (by omega))) hb1)
  clear HB hb1
  have HB := n0
  clear n0
  go_wp2_with fail
  refine (same_q A (some ⟨w3.heap.size, 0, none⟩) c 8 [1, 3, 5, 7, 9, 11, 13, 15] _ ?h0 HLc.out ?h1 (by decide) 9 (by kernel_rfl)).mono ?_
  case h0 => exact Kd.C_below HC.out (below_alloc (Below.refl _ _) _)
  case h1 => exact C_lit w3 3 [1, 3, 5, 7, 9, 11, 13, 15] (by decide)
  rintro e w4 ⟨rfl, hb1⟩
  have n0 := Aside0.mk (below_step (by repeat (first | (with_reducible first | exact HB.out | apply below_alloc | apply pw_below_drewN | apply below_drew1) | refine below_set ?_ (by omega))) hb1)
  clear HB hb1
  have HB := n0
  clear n0
  clear HC HLc
  go_wp2
  go_ret
  exact ⟨rfl, by repeat (first | (with_reducible first | exact HB.out | apply below_alloc | apply pw_below_drewN | apply below_drew1) | refine below_set ?_ (by omega))⟩

theorem count_nil (s : Int) (w : World) : Calls Try.prog 18 #[.pointer none, .int .i64 s] w fun e w' => e = .returned (.int .i64 0) ∧ Below w.heap.size w w' := by
  have HB := Aside0.mk (Below.refl w.heap.size w)
  go_enter Try.func18, Try.ntmps18
  go_wp2
  go_ret
  exact ⟨rfl, by repeat (first | (with_reducible first | exact HB.out | apply below_alloc | apply pw_below_drewN | apply below_drew1) | refine below_set ?_ (by omega))⟩
set_option maxHeartbeats 2000000 in
theorem fall_wnil (w : World) : Calls Try.prog 19 #[.pointer none] w fun e w' => e = .returned (.int .i64 0) ∧ Below w.heap.size w w' := by
  have HB := Aside0.mk (Below.refl w.heap.size w)
  go_enter Try.func19, Try.ntmps19
  go_wp2_with fail
  refine (units_nil _).mono ?_
  rintro e w1 ⟨rfl, hb1⟩
  have n0 := Aside0.mk (below_step (by repeat (first | (with_reducible first | exact HB.out | apply below_alloc | apply pw_below_drewN | apply below_drew1) | refine below_set ?_ (by omega))) hb1)
  clear HB hb1
  have HB := n0
  clear n0
  go_wp2_with fail
  go_loopw [3, 9] (fun v3 v9 wr => v3 = .int .i64 0 ∧ v9 = .int .i64 0 ∧ Aside0 (Below w.heap.size w wr)) (fun _ _ _ => 0)
  case atStart => exact ⟨rfl, rfl, ⟨by repeat (first | (with_reducible first | exact HB.out | apply below_alloc | apply pw_below_drewN | apply below_drew1) | refine below_set ?_ (by omega))⟩⟩
  case round =>
    clear HB
    obtain ⟨rfl, rfl, HB⟩ := hrel
    go_wp2
    go_ret
    exact ⟨rfl, by repeat (first | (with_reducible first | exact HB.out | apply below_alloc | apply pw_below_drewN | apply below_drew1) | refine below_set ?_ (by omega))⟩

/-! ### a good message -/
theorem good_f (m0 m1 m2 m3 m4 m5 : Int) : PWorkerPlays.pacesetterref14_Good.f 8 m0 m1 m2 m3 m4 m5 = some (wrap64 (1 + Int.tmod (wrap64 (Int.tmod (IntKind.u64.wrap m0) 8)) 2), wrap64 (Int.tmod (IntKind.u64.wrap m1) 8), wrap64 (Int.tmod (IntKind.u64.wrap m2) 8), wrap64 (Int.tmod (IntKind.u64.wrap m3) 8), Int.tmod (wrap64 (Int.tmod (IntKind.u64.wrap m4) 8)) 4, Int.tmod (wrap64 (Int.tmod (IntKind.u64.wrap m5) 8)) 5) := by kernel_rfl
def gk (m : Int) : Int := 1 + near m 8 % 2
def g8 (m : Int) : Int := near m 8
def g4 (m : Int) : Int := near m 8 % 4
def g5 (m : Int) : Int := near m 8 % 5
theorem gk_in (m : Int) : 1 ≤ gk m ∧ gk m ≤ 2 := by have := near_bounds m 8 (by decide); unfold gk; omega
theorem g8_in (m : Int) : 0 ≤ g8 m ∧ g8 m < 8 := near_bounds m 8 (by decide)
theorem g4_in (m : Int) : 0 ≤ g4 m ∧ g4 m < 4 := by have := near_bounds m 8 (by decide); unfold g4; omega
theorem g5_in (m : Int) : 0 ≤ g5 m ∧ g5 m < 5 := by have := near_bounds m 8 (by decide); unfold g5; omega
theorem good_v (m0 m1 m2 m3 m4 m5 : Int) : PWorkerPlays.pacesetterref14_Good.f 8 m0 m1 m2 m3 m4 m5 = some (gk m0, g8 m1, g8 m2, g8 m3, g4 m4, g5 m5) := by
  rw [good_f]
  have h : ∀ m, wrap64 (Int.tmod (IntKind.u64.wrap m) 8) = g8 m := fun m => raw_near m 8 (by decide) (by decide)
  rw [h m0, h m1, h m2, h m3, h m4, h m5]
  have t : ∀ (m k : Int), Int.tmod (g8 m) k = g8 m % k := fun m k => Int.tmod_eq_emod_of_nonneg (g8_in m).1
  rw [t m0 2, t m4 4, t m5 5]
  have e : wrap64 (1 + g8 m0 % 2) = gk m0 := wrap64_eq (by have := gk_in m0; unfold gk at this; unfold g8; omega) (by have := gk_in m0; unfold gk at this; unfold g8; omega)
  rw [e]
  rfl
theorem good_q (m0 m1 m2 m3 m4 m5 : Int) (w : World) : Calls Try.prog 10 #[.agg #[.int .i64 m0, .int .i64 m1, .int .i64 m2, .int .i64 m3, .int .i64 m4, .int .i64 m5]] w fun e w' => e = .returned (.agg #[.int .i64 (gk m0), .int .i64 (g8 m1), .int .i64 (g8 m2), .int .i64 (g8 m3), .int .i64 (g4 m4), .int .i64 (g5 m5)]) ∧ Below w.heap.size w w' :=
  PWorkerPlays.pacesetterref14_Good.calls 8 m0 m1 m2 m3 m4 m5 _ _ _ _ _ _ w (good_v m0 m1 m2 m3 m4 m5)
end Go.Proofs.Ytkjaeodnpgpfeaa.W4
