/-
  Proved here: what the reference's Cut, Percent, Budget, Steps answer. No condition.
-/
import Derived.Test.YtfnpepfabbgpfaaR1
import Derived.Test.YtfnpepfabbgpfaaB4
namespace Go.Proofs.Ytfnpepfabbgpfaa.R2
open Go.RowKit Go.Sort Go.Proofs.Ytfnpepfabbgpfaa.B0 Go.Proofs.Ytfnpepfabbgpfaa.B1 Go.Proofs.Ytfnpepfabbgpfaa.B1z Go.Proofs.Ytfnpepfabbgpfaa.B2 Go.Proofs.Ytfnpepfabbgpfaa.B4 Go.Proofs.Ytfnpepfabbgpfaa.R1 Go.Proofs.YtfnpepfabbgpfaaW.PrintWords Go.Proofs.YtfnpepfabbgpfaaW.PrintLast Go.Proofs.YtfnpepfabbgpfaaW.PrintMore
set_option linter.unusedVariables false
set_option linter.unusedSimpArgs false
attribute [local go_sem] max2_int min2_int max_two min_two
theorem cut_of (n : Int) : PBatchGoals.pacesetterref02_Cut.f n = some (cut n) := by
  unfold PBatchGoals.pacesetterref02_Cut.f cut mn mx
  (repeat' split) <;> simp <;> omega
theorem cut_bound (n : Int) : 0 ≤ cut n ∧ cut n ≤ 1048576 := by
  unfold cut mn mx
  (repeat' split) <;> omega
theorem cut_r (n : Int) (w : World) : Calls Try.prog 35 #[.int .i64 n] w fun e w' => e = .returned (.int .i64 (cut n)) ∧ Below w.heap.size w w' :=
  (PBatchGoals.pacesetterref02_Cut.calls n _ w (cut_of n)).mono fun e w' hh => ⟨hh.1, hh.2.below⟩
theorem pct_of (n d : Int) : PBatchGoals.pacesetterref02_Percent.f n d true = some (pct n d) := by
  unfold PBatchGoals.pacesetterref02_Percent.f pct
  rw [cut_of]
  have hc := cut_bound d
  show _ = some (wrap64 (Int.tdiv (wrap64 ((wrap64 ((mn (mx n 0) 100) * cut d)) + 99)) 100))
  have hx : 0 ≤ mn (mx n 0) 100 ∧ mn (mx n 0) 100 ≤ 100 := by
    unfold mn mx
    (repeat' split) <;> omega
  generalize mn (mx n 0) 100 = x at *
  generalize cut d = y at *
  have h0 : 0 ≤ x * y := Int.mul_nonneg hx.1 hc.1
  have h1 : x * y ≤ 100 * 1048576 := Int.mul_le_mul hx.2 hc.2 hc.1 (by decide)
  simp only [Option.bind_some, if_true]
  generalize x * y = z at *
  have hz : wrap64 z = z := by unfold wrap64; omega
  rw [hz]
  have e1 : wrap64 (z + 99) = z + 99 := by unfold wrap64; omega
  rw [e1, Int.tdiv_eq_ediv_of_nonneg (by omega), Int.tdiv_eq_ediv_of_nonneg (by omega), Int.tmod_eq_emod_of_nonneg (by omega)]
  have e2 : wrap64 (z / 100) = z / 100 := by unfold wrap64; omega
  have e3 : wrap64 (z / 100 + 1) = z / 100 + 1 := by unfold wrap64; omega
  have e4 : wrap64 ((z + 99) / 100) = (z + 99) / 100 := by unfold wrap64; omega
  rw [e2, e3, e4]
  split <;> simp <;> omega
theorem pct_r (n d : Int) (w : World) : Calls Try.prog 28 #[.int .i64 n, .int .i64 d, .bool true] w fun e w' => e = .returned (.int .i64 (pct n d)) ∧ Below w.heap.size w w' :=
  PBatchGoals.pacesetterref02_Percent.calls n d true _ w (pct_of n d)
theorem low_of (d u : Int) : mx (wrap64 (cut d - cut u)) 0 = lowV d u := by
  have h1 := cut_bound d
  have h2 := cut_bound u
  have h3 : cut 0 = 0 := rfl
  unfold lowV
  rw [h3]
  have e : wrap64 (cut d - cut u) = cut d - cut u := by unfold wrap64; omega
  rw [e]
  have hm : 0 ≤ mx (cut d - cut u) 0 ∧ mx (cut d - cut u) 0 ≤ 1048576 := by unfold mx; split <;> omega
  generalize mx (cut d - cut u) 0 = m at *
  have e2 : wrap64 (m - 0) = m := by unfold wrap64; omega
  rw [e2]
  unfold mx
  split <;> omega
theorem high_of (d s : Int) : wrap64 (cut d + cut s) = highV d s := by
  have h1 := cut_bound d
  have h2 := cut_bound s
  have h3 : cut 0 = 0 := rfl
  unfold highV
  rw [h3]
  have e : wrap64 (cut d + cut s) = cut d + cut s := by unfold wrap64; omega
  rw [e]
  have e2 : wrap64 (cut d + cut s - 0) = cut d + cut s := by unfold wrap64; omega
  rw [e2]
  unfold mx
  split <;> omega

set_option maxRecDepth 100000 in
set_option maxHeartbeats 4000000 in
theorem budget_r (v d s u st s0 s1 s2 s3 p q r : Int) (w : World) : Calls Try.prog 30 #[.agg #[.int .i64 v, .int .i64 d, .int .i64 s, .int .i64 u, .int .i64 st, .int .i64 s0, .int .i64 s1, .int .i64 s2, .int .i64 s3, .int .i64 p, .int .i64 q, .int .i64 r]] w fun e w' => e = .returned (.tuple #[.int .i64 (lowV d u), .int .i64 (highV d s)]) ∧ Below w.heap.size w w' := by
  have HB := Aside0.mk (Below.refl w.heap.size w)
  rw [← low_of, ← high_of]
  go_enter Try.func30, Try.ntmps30
  go_wp2_with fail
  refine (cut_r d _).mono ?_
  rintro e w1 ⟨rfl, hb1⟩
  have D : IsBlk w1 w.heap.size #[.int .i64 v, .int .i64 d, .int .i64 s, .int .i64 u, .int .i64 st, .int .i64 s0, .int .i64 s1, .int .i64 s2, .int .i64 s3, .int .i64 p, .int .i64 q, .int .i64 r] 24 := IsBlk.below (by repeat (first | ((refine IsBlk.new _ _ ?_); (simp; done)) | apply IsBlk.alloc | apply IsBlk.drewN)) hb1
  have D_0 := blk_cell D 0
  have D_1 := blk_cell D 1
  have D_2 := blk_cell D 2
  have D_3 := blk_cell D 3
  have D_4 := blk_cell D 4
  have D_5 := blk_cell D 5
  have D_6 := blk_cell D 6
  have D_7 := blk_cell D 7
  have D_8 := blk_cell D 8
  have D_9 := blk_cell D 9
  have D_10 := blk_cell D 10
  have D_11 := blk_cell D 11
  simp only [List.getElem?_toArray, List.getElem?_cons_zero, List.getElem?_cons_succ] at D_0 D_1 D_2 D_3 D_4 D_5 D_6 D_7 D_8 D_9 D_10 D_11
  have D_l := blk_lt D
  have HD := Aside0.mk D
  clear D
  have n0 := Aside0.mk (below_step (by repeat (first | (with_reducible first | exact HB.out | apply below_alloc | apply pw_below_drewN | apply below_drew1) | refine below_set ?_ (by omega))) hb1)
  clear HB hb1
  have HB := n0
  clear n0
  go_wp2_with fail
  refine start_ (n := 13) (S := fun w' => w'.cell? ⟨w.heap.size, 2, none⟩ = some (.int .i64 s) ∧ w'.cell? ⟨w.heap.size, 3, none⟩ = some (.int .i64 u)) (ds := []) #[false, false, false, false, false, false, false, false, false, false, false, false, false] (by kernel_rfl) rfl rfl ⟨D_2, D_3⟩ (fun hHeld => ?_)
  refine pure_ (i := 0) (N := some 8) (v := ?_) (a' := ?_) #[true, false, false, false, false, false, false, false, false, false, false, false, false] rfl rfl (by kernel_rfl) (fun _ _ _ h => h) (Or.inl ⟨by rfl, ?_⟩) ?_ ?_
  rotate_left
  · intro w'
    go_simp
    with_reducible rfl
  rotate_left
  · simp only [Act.put, List.setIfInBounds_toArray, List.set_cons_zero, List.set_cons_succ, i64_w, i32_w]
    rfl
  refine pure_ (i := 1) (N := some 9) (v := ?_) (a' := ?_) #[true, true, false, false, false, false, false, false, false, false, false, false, false] rfl rfl (by kernel_rfl) (fun _ _ _ h => h) (Or.inl ⟨by rfl, ?_⟩) ?_ ?_
  rotate_left
  · intro w'
    go_simp
    with_reducible rfl
  rotate_left
  · simp only [Act.put, List.setIfInBounds_toArray, List.set_cons_zero, List.set_cons_succ, i64_w, i32_w]
    rfl
  refine pure_ (i := 6) (N := some 14) (v := ?_) (a' := ?_) #[true, true, false, false, false, false, true, false, false, false, false, false, false] rfl rfl (by kernel_rfl) (fun _ _ _ h => h) (Or.inl ⟨by rfl, ?_⟩) ?_ ?_
  rotate_left
  · intro w'
    go_simp
    with_reducible rfl
  rotate_left
  · simp only [Act.put, List.setIfInBounds_toArray, List.set_cons_zero, List.set_cons_succ, i64_w, i32_w]
    rfl
  refine pure_ (i := 7) (N := some 15) (v := ?_) (a' := ?_) #[true, true, false, false, false, false, true, true, false, false, false, false, false] rfl rfl (by kernel_rfl) (fun _ _ _ h => h) (Or.inl ⟨by rfl, ?_⟩) ?_ ?_
  rotate_left
  · intro w'
    go_simp
    with_reducible rfl
  rotate_left
  · simp only [Act.put, List.setIfInBounds_toArray, List.set_cons_zero, List.set_cons_succ, i64_w, i32_w]
    rfl
  refine take_ (i := 2) (N := some 10) (v := ?_) (a' := ?_) #[true, true, true, false, false, false, true, true, false, false, false, false, false] rfl rfl (by kernel_rfl) (fun _ _ _ h => h) (Or.inl ⟨by rfl, ?_⟩) hHeld ?_ ?_
  rotate_left
  · rintro w' ⟨s0, s1⟩
    go_simp
    with_reducible rfl
  rotate_left
  · simp only [Act.put, List.setIfInBounds_toArray, List.set_cons_zero, List.set_cons_succ, i64_w, i32_w]
    rfl
  refine take_ (i := 8) (N := some 16) (v := ?_) (a' := ?_) #[true, true, true, false, false, false, true, true, true, false, false, false, false] rfl rfl (by kernel_rfl) (fun _ _ _ h => h) (Or.inl ⟨by rfl, ?_⟩) hHeld ?_ ?_
  rotate_left
  · rintro w' ⟨s0, s1⟩
    go_simp
    with_reducible rfl
  rotate_left
  · simp only [Act.put, List.setIfInBounds_toArray, List.set_cons_zero, List.set_cons_succ, i64_w, i32_w]
    rfl
  refine one_ (i := 3) (N := some 11) #[true, true, true, true, false, false, true, true, true, false, false, false, false] rfl rfl (by kernel_rfl) (by decide) (fun K hK => ?_)
  refine goes_ Try.func35 (by kernel_rfl) rfl #[.int .i64 u] (by rfl) rfl rfl (by simp only [List.map_toArray, List.map_cons, List.map_nil]; rfl) ?_
  with_reducible refine (cut_r u _).mono ?_
  rintro e w3 ⟨rfl, hb3⟩
  refine ⟨_, rfl, ?_⟩
  have n0 := Aside0.mk (below_step (by repeat (first | (with_reducible first | exact HB.out | apply below_alloc | apply pw_below_drewN | apply below_drew1) | refine below_set ?_ (by omega))) hb3)
  clear HB
  have HB := n0
  clear n0
  refine hK.out _ _ ⟨cell_keep hb3 hHeld.1, cell_keep hb3 hHeld.2⟩ (fun hHeld => ?_)
  clear hK K
  refine norm_ (a' := ?_) ?_ ?_
  rotate_left
  · show Act.put _ (some 11) _ = _
    simp only [Act.put, List.setIfInBounds_toArray, List.set_cons_zero, List.set_cons_succ, i64_w, i32_w]
    rfl
  refine pure_ (i := 4) (N := some 12) (v := ?_) (a' := ?_) #[true, true, true, true, true, false, true, true, true, false, false, false, false] rfl rfl (by kernel_rfl) (fun _ _ _ h => h) (Or.inl ⟨by rfl, ?_⟩) ?_ ?_
  rotate_left
  · intro w'
    go_simp
    with_reducible rfl
  rotate_left
  · simp only [Act.put, List.setIfInBounds_toArray, List.set_cons_zero, List.set_cons_succ, i64_w, i32_w]
    rfl
  refine pure_ (i := 5) (N := some 13) (v := ?_) (a' := ?_) #[true, true, true, true, true, true, true, true, true, false, false, false, false] rfl rfl (by kernel_rfl) (fun _ _ _ h => h) (Or.inl ⟨by rfl, ?_⟩) ?_ ?_
  rotate_left
  · intro w'
    go_simp
    with_reducible rfl
  rotate_left
  · simp only [Act.put, List.setIfInBounds_toArray, List.set_cons_zero, List.set_cons_succ, i64_w, i32_w]
    rfl
  refine one_ (i := 9) (N := some 17) #[true, true, true, true, true, true, true, true, true, true, false, false, false] rfl rfl (by kernel_rfl) (by decide) (fun K hK => ?_)
  refine goes_ Try.func35 (by kernel_rfl) rfl #[.int .i64 s] (by rfl) rfl rfl (by simp only [List.map_toArray, List.map_cons, List.map_nil]; rfl) ?_
  with_reducible refine (cut_r s _).mono ?_
  rintro e w3 ⟨rfl, hb3⟩
  refine ⟨_, rfl, ?_⟩
  have n0 := Aside0.mk (below_step (by repeat (first | (with_reducible first | exact HB.out | apply below_alloc | apply pw_below_drewN | apply below_drew1) | refine below_set ?_ (by omega))) hb3)
  clear HB
  have HB := n0
  clear n0
  refine hK.out _ _ ⟨cell_keep hb3 hHeld.1, cell_keep hb3 hHeld.2⟩ (fun hHeld => ?_)
  clear hK K
  refine norm_ (a' := ?_) ?_ ?_
  rotate_left
  · show Act.put _ (some 17) _ = _
    simp only [Act.put, List.setIfInBounds_toArray, List.set_cons_zero, List.set_cons_succ, i64_w, i32_w]
    rfl
  refine pure_ (i := 10) (N := some 18) (v := ?_) (a' := ?_) #[true, true, true, true, true, true, true, true, true, true, true, false, false] rfl rfl (by kernel_rfl) (fun _ _ _ h => h) (Or.inl ⟨by rfl, ?_⟩) ?_ ?_
  rotate_left
  · intro w'
    go_simp
    with_reducible rfl
  rotate_left
  · simp only [Act.put, List.setIfInBounds_toArray, List.set_cons_zero, List.set_cons_succ, i64_w, i32_w]
    rfl
  refine pure_ (i := 11) (N := some 2) (v := ?_) (a' := ?_) #[true, true, true, true, true, true, true, true, true, true, true, true, false] rfl rfl (by kernel_rfl) (fun _ _ _ h => h) (Or.inl ⟨by rfl, ?_⟩) ?_ ?_
  rotate_left
  · intro w'
    go_simp
    with_reducible rfl
  rotate_left
  · simp only [Act.put, List.setIfInBounds_toArray, List.set_cons_zero, List.set_cons_succ, i64_w, i32_w]
    rfl
  refine pure_ (i := 12) (N := some 3) (v := ?_) (a' := ?_) #[true, true, true, true, true, true, true, true, true, true, true, true, true] rfl rfl (by kernel_rfl) (fun _ _ _ h => h) (Or.inl ⟨by rfl, ?_⟩) ?_ ?_
  rotate_left
  · intro w'
    go_simp
    with_reducible rfl
  rotate_left
  · simp only [Act.put, List.setIfInBounds_toArray, List.set_cons_zero, List.set_cons_succ, i64_w, i32_w]
    rfl
  refine done_ (by kernel_rfl) ?_
  go_wp2
  all_goals
    go_ret2
    exact ⟨by unfold mx; first | (rw [if_pos (by omega)]; rfl) | (rw [if_neg (by omega)]; rfl), by repeat (first | (with_reducible first | exact HB.out | apply below_alloc | apply pw_below_drewN | apply below_drew1) | refine below_set ?_ (by omega))⟩

set_option maxRecDepth 100000 in
set_option maxHeartbeats 4000000 in
theorem steps_r (v d s u st s0 s1 s2 s3 p q r : Int) (w : World) : Calls Try.prog 27 #[.agg #[.int .i64 v, .int .i64 d, .int .i64 s, .int .i64 u, .int .i64 st, .int .i64 s0, .int .i64 s1, .int .i64 s2, .int .i64 s3, .int .i64 p, .int .i64 q, .int .i64 r]] w fun e w' => ∃ vv, e = .returned vv ∧ RowI w' w.heap.size vv (stepsL s0 s1 s2 s3) ∧ Below w.heap.size w w' := by
  have HB := Aside0.mk (Below.refl w.heap.size w)
  obtain ⟨l, hl⟩ : ∃ l, stepsL s0 s1 s2 s3 = l := ⟨_, rfl⟩
  rw [hl]
  have HL := Aside0.mk hl
  clear hl
  go_enter Try.func27, Try.ntmps27
  go_wp2
  have hD1 : IsBlk (w.alloc (.cells #[.int .i64 v, .int .i64 d, .int .i64 s, .int .i64 u, .int .i64 st, .int .i64 s0, .int .i64 s1, .int .i64 s2, .int .i64 s3, .int .i64 p, .int .i64 q, .int .i64 r] 24)) w.heap.size #[.int .i64 v, .int .i64 d, .int .i64 s, .int .i64 u, .int .i64 st, .int .i64 s0, .int .i64 s1, .int .i64 s2, .int .i64 s3, .int .i64 p, .int .i64 q, .int .i64 r] 24 := IsBlk.new _ _ rfl
  have hB1 : Below w.heap.size w (w.alloc (.cells #[.int .i64 v, .int .i64 d, .int .i64 s, .int .i64 u, .int .i64 st, .int .i64 s0, .int .i64 s1, .int .i64 s2, .int .i64 s3, .int .i64 p, .int .i64 q, .int .i64 r] 24)) := (by repeat (first | (with_reducible first | exact HB.out | apply below_alloc | apply pw_below_drewN | apply below_drew1) | refine below_set ?_ (by omega)))
  generalize w.alloc (.cells #[.int .i64 v, .int .i64 d, .int .i64 s, .int .i64 u, .int .i64 st, .int .i64 s0, .int .i64 s1, .int .i64 s2, .int .i64 s3, .int .i64 p, .int .i64 q, .int .i64 r] 24) = w1 at *
  have HD := Aside0.mk hD1
  have HBw := Aside0.mk hB1
  have HL1 := Aside0.mk (blk_lt hD1)
  clear hD1 hB1 HB
  go_loopw [3, 4] (fun v3 v4 wr => ∃ (k : Int) (x : List Int), v4 = .int .i64 k ∧ 0 ≤ k ∧ k ≤ 4 ∧ Aside0 (x.length ≤ 4) ∧ Aside0 (x ++ ([s0, s1, s2, s3].drop k.toNat).takeWhile (fun n => n != 0) = l) ∧ Aside0 (RowI wr w1.heap.size v3 x) ∧ Aside0 (IsBlk wr w.heap.size #[.int .i64 v, .int .i64 d, .int .i64 s, .int .i64 u, .int .i64 st, .int .i64 s0, .int .i64 s1, .int .i64 s2, .int .i64 s3, .int .i64 p, .int .i64 q, .int .i64 r] 24) ∧ Aside0 (Below w1.heap.size w1 wr)) (fun _ v4 _ => 4 - (intOf v4).toNat)
  case atStart => exact ⟨0, [], rfl, by omega, by omega, ⟨by simp⟩, ⟨HL.out⟩, ⟨Kd.R_nil _ _ _ _ _⟩, HD, ⟨Below.refl _ _⟩⟩
  case round =>
    clear HD
    obtain ⟨k, x, rfl, hk0, hk, HX0, HE, HO, HD0, HB⟩ := hrel
    have HX : Aside0 (x.length ≤ 1000) := ⟨by have := HX0.out; omega⟩
    have D := HD0.out
    clear HD0
    have D_0 := blk_cell D 0
    have D_1 := blk_cell D 1
    have D_2 := blk_cell D 2
    have D_3 := blk_cell D 3
    have D_4 := blk_cell D 4
    have D_5 := blk_cell D 5
    have D_6 := blk_cell D 6
    have D_7 := blk_cell D 7
    have D_8 := blk_cell D 8
    have D_9 := blk_cell D 9
    have D_10 := blk_cell D 10
    have D_11 := blk_cell D 11
    simp only [List.getElem?_toArray, List.getElem?_cons_zero, List.getElem?_cons_succ] at D_0 D_1 D_2 D_3 D_4 D_5 D_6 D_7 D_8 D_9 D_10 D_11
    have D_l := blk_lt D
    have HD := Aside0.mk D
    clear D
    rcases (by omega : k = 0 ∨ k = 1 ∨ k = 2 ∨ k = 3 ∨ k = 4) with rfl | rfl | rfl | rfl | rfl
    · clear hk0 hk
      by_cases hz : s0 = 0
      · have hz1 : (s0 == 0) = true := by simp [hz]
        have hz2 : (s0 != 0) = false := by simp [hz]
        have hE := HE.out
        simp [hz] at hE
        subst hE
        clear hz
        go_wp2
        go_ret
        exact ⟨_, rfl, Kd.R_lower HO.out (below_size HBw.out), below_step HBw.out HB.out⟩
      · have hz1 : (s0 == 0) = false := by simp [hz]
        have hz2 : (s0 != 0) = true := by simp [hz]
        have hE := HE.out
        have hlen : x.length + 1 ≤ 4 := by
          have h4 := steps_upto s0 s1 s2 s3
          rw [HL.out] at h4
          rw [← hE] at h4
          simp [List.takeWhile_cons, hz] at h4
          omega
        have HN := Aside0.mk hlen
        have hE2 : (x ++ [s0]) ++ ([s0, s1, s2, s3].drop (1 : Int).toNat).takeWhile (fun n => n != 0) = l := by
          rw [← hE]
          simp [List.takeWhile_cons, hz]
        have HE2 := Aside0.mk hE2
        clear hE hE2 hlen hz
        have hsep : ∀ k, k < w1.heap.size → some k ≠ u3.ownBlock := fun k hk e => by
          obtain ⟨inner, ho⟩ := Kd.R_own HO.out
          have := own_base ho k e.symm
          omega
        have HSEP := Aside0.mk hsep
        clear hsep
        go_wp2_with (
          (with_reducible refine gate_builtin (b := .append) (xs := #[.tmp 16, .tmp 21]) rfl ?_)
          at_builtin
          refine Kd.R_append (Kd.int .i64) (w0 := w1) w1.heap.size rfl (.tmp 16) (.tmp 21) 27 3 (.int .i64 0) 8 rfl Try.underlying27 info3 rfl (by decide) (by omega) u3 x s0 [.int .i64 s0] (fun _ => True) (fun _ => False) rfl (by first | (go_simp; done) | (go_simp; rfl)) ?aP (fun _ hk => hk.elim) (fun _ _ => trivial) ?aO ?aB ?aS ?aL ?_
          case aP => exact rfl
          case aO => exact (by (with_reducible repeat (first | apply Kd.R_alloc | apply Kd.R_drewN | apply Kd.R_drew)); exact HO.out)
          case aB => exact (by repeat (first | (with_reducible first | exact HB.out | apply below_alloc | apply pw_below_drewN | apply below_drew1) | refine below_set ?_ (by omega)))
          case aS => exact below_size (by repeat (first | (with_reducible first | exact HB.out | apply below_alloc | apply pw_below_drewN | apply below_drew1) | refine below_set ?_ (by omega)))
          case aL => have := HX.out; omega
          intro v1 w2 ho hb hg hat
          have DD := Aside0.mk (IsBlk_grown (by repeat (with_reducible first | exact HD.out | apply IsBlk.alloc | apply IsBlk.drewN | apply IsBlk.drew)) hg (HSEP.out _ HL1.out))
          have HO1 := Aside0.mk ho
          have HB1 := Aside0.mk hb
          clear ho hb hg hat)
        go_roundw
        case rel => exact ⟨1, _, rfl, by omega, by omega, ⟨by rw [List.length_append]; exact HN.out⟩, HE2, HO1, DD, HB1⟩
        case measure => simp [intOf]
    · clear hk0 hk
      by_cases hz : s1 = 0
      · have hz1 : (s1 == 0) = true := by simp [hz]
        have hz2 : (s1 != 0) = false := by simp [hz]
        have hE := HE.out
        simp [hz] at hE
        subst hE
        clear hz
        go_wp2
        go_ret
        exact ⟨_, rfl, Kd.R_lower HO.out (below_size HBw.out), below_step HBw.out HB.out⟩
      · have hz1 : (s1 == 0) = false := by simp [hz]
        have hz2 : (s1 != 0) = true := by simp [hz]
        have hE := HE.out
        have hlen : x.length + 1 ≤ 4 := by
          have h4 := steps_upto s0 s1 s2 s3
          rw [HL.out] at h4
          rw [← hE] at h4
          simp [List.takeWhile_cons, hz] at h4
          omega
        have HN := Aside0.mk hlen
        have hE2 : (x ++ [s1]) ++ ([s0, s1, s2, s3].drop (2 : Int).toNat).takeWhile (fun n => n != 0) = l := by
          rw [← hE]
          simp [List.takeWhile_cons, hz]
        have HE2 := Aside0.mk hE2
        clear hE hE2 hlen hz
        have hsep : ∀ k, k < w1.heap.size → some k ≠ u3.ownBlock := fun k hk e => by
          obtain ⟨inner, ho⟩ := Kd.R_own HO.out
          have := own_base ho k e.symm
          omega
        have HSEP := Aside0.mk hsep
        clear hsep
        go_wp2_with (
          (with_reducible refine gate_builtin (b := .append) (xs := #[.tmp 16, .tmp 21]) rfl ?_)
          at_builtin
          refine Kd.R_append (Kd.int .i64) (w0 := w1) w1.heap.size rfl (.tmp 16) (.tmp 21) 27 3 (.int .i64 0) 8 rfl Try.underlying27 info3 rfl (by decide) (by omega) u3 x s1 [.int .i64 s1] (fun _ => True) (fun _ => False) rfl (by first | (go_simp; done) | (go_simp; rfl)) ?aP (fun _ hk => hk.elim) (fun _ _ => trivial) ?aO ?aB ?aS ?aL ?_
          case aP => exact rfl
          case aO => exact (by (with_reducible repeat (first | apply Kd.R_alloc | apply Kd.R_drewN | apply Kd.R_drew)); exact HO.out)
          case aB => exact (by repeat (first | (with_reducible first | exact HB.out | apply below_alloc | apply pw_below_drewN | apply below_drew1) | refine below_set ?_ (by omega)))
          case aS => exact below_size (by repeat (first | (with_reducible first | exact HB.out | apply below_alloc | apply pw_below_drewN | apply below_drew1) | refine below_set ?_ (by omega)))
          case aL => have := HX.out; omega
          intro v1 w2 ho hb hg hat
          have DD := Aside0.mk (IsBlk_grown (by repeat (with_reducible first | exact HD.out | apply IsBlk.alloc | apply IsBlk.drewN | apply IsBlk.drew)) hg (HSEP.out _ HL1.out))
          have HO1 := Aside0.mk ho
          have HB1 := Aside0.mk hb
          clear ho hb hg hat)
        go_roundw
        case rel => exact ⟨2, _, rfl, by omega, by omega, ⟨by rw [List.length_append]; exact HN.out⟩, HE2, HO1, DD, HB1⟩
        case measure => simp [intOf]
    · clear hk0 hk
      by_cases hz : s2 = 0
      · have hz1 : (s2 == 0) = true := by simp [hz]
        have hz2 : (s2 != 0) = false := by simp [hz]
        have hE := HE.out
        simp [hz] at hE
        subst hE
        clear hz
        go_wp2
        go_ret
        exact ⟨_, rfl, Kd.R_lower HO.out (below_size HBw.out), below_step HBw.out HB.out⟩
      · have hz1 : (s2 == 0) = false := by simp [hz]
        have hz2 : (s2 != 0) = true := by simp [hz]
        have hE := HE.out
        have hlen : x.length + 1 ≤ 4 := by
          have h4 := steps_upto s0 s1 s2 s3
          rw [HL.out] at h4
          rw [← hE] at h4
          simp [List.takeWhile_cons, hz] at h4
          omega
        have HN := Aside0.mk hlen
        have hE2 : (x ++ [s2]) ++ ([s0, s1, s2, s3].drop (3 : Int).toNat).takeWhile (fun n => n != 0) = l := by
          rw [← hE]
          simp [List.takeWhile_cons, hz]
        have HE2 := Aside0.mk hE2
        clear hE hE2 hlen hz
        have hsep : ∀ k, k < w1.heap.size → some k ≠ u3.ownBlock := fun k hk e => by
          obtain ⟨inner, ho⟩ := Kd.R_own HO.out
          have := own_base ho k e.symm
          omega
        have HSEP := Aside0.mk hsep
        clear hsep
        go_wp2_with (
          (with_reducible refine gate_builtin (b := .append) (xs := #[.tmp 16, .tmp 21]) rfl ?_)
          at_builtin
          refine Kd.R_append (Kd.int .i64) (w0 := w1) w1.heap.size rfl (.tmp 16) (.tmp 21) 27 3 (.int .i64 0) 8 rfl Try.underlying27 info3 rfl (by decide) (by omega) u3 x s2 [.int .i64 s2] (fun _ => True) (fun _ => False) rfl (by first | (go_simp; done) | (go_simp; rfl)) ?aP (fun _ hk => hk.elim) (fun _ _ => trivial) ?aO ?aB ?aS ?aL ?_
          case aP => exact rfl
          case aO => exact (by (with_reducible repeat (first | apply Kd.R_alloc | apply Kd.R_drewN | apply Kd.R_drew)); exact HO.out)
          case aB => exact (by repeat (first | (with_reducible first | exact HB.out | apply below_alloc | apply pw_below_drewN | apply below_drew1) | refine below_set ?_ (by omega)))
          case aS => exact below_size (by repeat (first | (with_reducible first | exact HB.out | apply below_alloc | apply pw_below_drewN | apply below_drew1) | refine below_set ?_ (by omega)))
          case aL => have := HX.out; omega
          intro v1 w2 ho hb hg hat
          have DD := Aside0.mk (IsBlk_grown (by repeat (with_reducible first | exact HD.out | apply IsBlk.alloc | apply IsBlk.drewN | apply IsBlk.drew)) hg (HSEP.out _ HL1.out))
          have HO1 := Aside0.mk ho
          have HB1 := Aside0.mk hb
          clear ho hb hg hat)
        go_roundw
        case rel => exact ⟨3, _, rfl, by omega, by omega, ⟨by rw [List.length_append]; exact HN.out⟩, HE2, HO1, DD, HB1⟩
        case measure => simp [intOf]
    · clear hk0 hk
      by_cases hz : s3 = 0
      · have hz1 : (s3 == 0) = true := by simp [hz]
        have hz2 : (s3 != 0) = false := by simp [hz]
        have hE := HE.out
        simp [hz] at hE
        subst hE
        clear hz
        go_wp2
        go_ret
        exact ⟨_, rfl, Kd.R_lower HO.out (below_size HBw.out), below_step HBw.out HB.out⟩
      · have hz1 : (s3 == 0) = false := by simp [hz]
        have hz2 : (s3 != 0) = true := by simp [hz]
        have hE := HE.out
        have hlen : x.length + 1 ≤ 4 := by
          have h4 := steps_upto s0 s1 s2 s3
          rw [HL.out] at h4
          rw [← hE] at h4
          simp [List.takeWhile_cons, hz] at h4
          omega
        have HN := Aside0.mk hlen
        have hE2 : (x ++ [s3]) ++ ([s0, s1, s2, s3].drop (4 : Int).toNat).takeWhile (fun n => n != 0) = l := by
          rw [← hE]
          simp [List.takeWhile_cons, hz]
        have HE2 := Aside0.mk hE2
        clear hE hE2 hlen hz
        have hsep : ∀ k, k < w1.heap.size → some k ≠ u3.ownBlock := fun k hk e => by
          obtain ⟨inner, ho⟩ := Kd.R_own HO.out
          have := own_base ho k e.symm
          omega
        have HSEP := Aside0.mk hsep
        clear hsep
        go_wp2_with (
          (with_reducible refine gate_builtin (b := .append) (xs := #[.tmp 16, .tmp 21]) rfl ?_)
          at_builtin
          refine Kd.R_append (Kd.int .i64) (w0 := w1) w1.heap.size rfl (.tmp 16) (.tmp 21) 27 3 (.int .i64 0) 8 rfl Try.underlying27 info3 rfl (by decide) (by omega) u3 x s3 [.int .i64 s3] (fun _ => True) (fun _ => False) rfl (by first | (go_simp; done) | (go_simp; rfl)) ?aP (fun _ hk => hk.elim) (fun _ _ => trivial) ?aO ?aB ?aS ?aL ?_
          case aP => exact rfl
          case aO => exact (by (with_reducible repeat (first | apply Kd.R_alloc | apply Kd.R_drewN | apply Kd.R_drew)); exact HO.out)
          case aB => exact (by repeat (first | (with_reducible first | exact HB.out | apply below_alloc | apply pw_below_drewN | apply below_drew1) | refine below_set ?_ (by omega)))
          case aS => exact below_size (by repeat (first | (with_reducible first | exact HB.out | apply below_alloc | apply pw_below_drewN | apply below_drew1) | refine below_set ?_ (by omega)))
          case aL => have := HX.out; omega
          intro v1 w2 ho hb hg hat
          have DD := Aside0.mk (IsBlk_grown (by repeat (with_reducible first | exact HD.out | apply IsBlk.alloc | apply IsBlk.drewN | apply IsBlk.drew)) hg (HSEP.out _ HL1.out))
          have HO1 := Aside0.mk ho
          have HB1 := Aside0.mk hb
          clear ho hb hg hat)
        go_roundw
        case rel => exact ⟨4, _, rfl, by omega, by omega, ⟨by rw [List.length_append]; exact HN.out⟩, HE2, HO1, DD, HB1⟩
        case measure => simp [intOf]
    · clear hk0 hk
      have hE := HE.out
      simp at hE
      subst hE
      go_wp2
      go_ret
      exact ⟨_, rfl, Kd.R_lower HO.out (below_size HBw.out), below_step HBw.out HB.out⟩
end Go.Proofs.Ytfnpepfabbgpfaa.R2
