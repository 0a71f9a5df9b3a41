/-
  Proved here: what pacesetterlaw18.BatchGoals returns, whatever the input: true. No condition.
-/
import Derived.Test.YtfnpepfabbgpfaaR4
import Derived.Test.YtfnpepfabbgpfaaB3
namespace Go.Proofs.Ytfnpepfabbgpfaa.WalkBatchGoals
open Go.RowKit Go.Sort Go.Proofs.Ytfnpepfabbgpfaa.B0 Go.Proofs.Ytfnpepfabbgpfaa.B1 Go.Proofs.Ytfnpepfabbgpfaa.B1z Go.Proofs.Ytfnpepfabbgpfaa.B2 Go.Proofs.Ytfnpepfabbgpfaa.B3 Go.Proofs.Ytfnpepfabbgpfaa.B4 Go.Proofs.Ytfnpepfabbgpfaa.B7 Go.Proofs.Ytfnpepfabbgpfaa.R1 Go.Proofs.Ytfnpepfabbgpfaa.R2 Go.Proofs.Ytfnpepfabbgpfaa.R3 Go.Proofs.Ytfnpepfabbgpfaa.R4 Go.Proofs.YtfnpepfabbgpfaaW.PrintWords Go.Proofs.YtfnpepfabbgpfaaW.PrintLast Go.Proofs.YtfnpepfabbgpfaaW.PrintMore
set_option linter.unusedVariables false
set_option linter.unusedSimpArgs false
attribute [local go_sem] max2_int min2_int max_two min_two

/-- The goal of a stage. -/
def onC (v d s u st s0 s1 s2 s3 p q r i : Int) : Array Value := if (targetV v d s u st s0 s1 s2 s3 p q r i == 0) = true then #[.int .i64 0, .int .i64 0, .int .i64 0, .int .i64 0, .int .i64 0, .bool false] else #[.int .i64 v, .int .i64 (targetV v d s u st s0 s1 s2 s3 p q r i), .int .i64 d, .int .i64 (lowV d u), .int .i64 (highV d s), .bool (st == 2)]
theorem on_a (v d s u st s0 s1 s2 s3 p q r i : Int) (w : World) : Calls Try.prog 18 #[.agg #[.int .i64 v, .int .i64 d, .int .i64 s, .int .i64 u, .int .i64 st, .int .i64 s0, .int .i64 s1, .int .i64 s2, .int .i64 s3, .int .i64 p, .int .i64 q, .int .i64 r], .int .i64 i] w fun e w' => e = .returned (.agg (onC v d s u st s0 s1 s2 s3 p q r i)) ∧ Below w.heap.size w w' := on_q v d s u st s0 s1 s2 s3 p q r i w
theorem on_b (v d s u st s0 s1 s2 s3 p q r i : Int) (w : World) : Calls Try.prog 19 #[.agg #[.int .i64 v, .int .i64 d, .int .i64 s, .int .i64 u, .int .i64 st, .int .i64 s0, .int .i64 s1, .int .i64 s2, .int .i64 s3, .int .i64 p, .int .i64 q, .int .i64 r], .int .i64 i] w fun e w' => e = .returned (.agg (onC v d s u st s0 s1 s2 s3 p q r i)) ∧ Below w.heap.size w w' := on_r v d s u st s0 s1 s2 s3 p q r i w
theorem back_a (v d s u st s0 s1 s2 s3 p q r i : Int) (w : World) : Calls Try.prog 20 #[.agg #[.int .i64 v, .int .i64 d, .int .i64 s, .int .i64 u, .int .i64 st, .int .i64 s0, .int .i64 s1, .int .i64 s2, .int .i64 s3, .int .i64 p, .int .i64 q, .int .i64 r], .int .i64 i] w fun e w' => e = .returned (.agg (backC v d s u st s0 s1 s2 s3 p q r i)) ∧ Below w.heap.size w w' := back_q v d s u st s0 s1 s2 s3 p q r i w
theorem back_b (v d s u st s0 s1 s2 s3 p q r i : Int) (w : World) : Calls Try.prog 21 #[.agg #[.int .i64 v, .int .i64 d, .int .i64 s, .int .i64 u, .int .i64 st, .int .i64 s0, .int .i64 s1, .int .i64 s2, .int .i64 s3, .int .i64 p, .int .i64 q, .int .i64 r], .int .i64 i] w fun e w' => e = .returned (.agg (backC v d s u st s0 s1 s2 s3 p q r i)) ∧ Below w.heap.size w w' := back_r v d s u st s0 s1 s2 s3 p q r i w
theorem on_shape (v d s u st s0 s1 s2 s3 p q r i : Int) : ∃ (a0 a1 a2 a3 a4 : Int) (a5 : Bool), onC v d s u st s0 s1 s2 s3 p q r i = #[.int .i64 a0, .int .i64 a1, .int .i64 a2, .int .i64 a3, .int .i64 a4, .bool a5] := by
  unfold onC
  split <;> exact ⟨_, _, _, _, _, _, rfl⟩
theorem back_shape (v d s u st s0 s1 s2 s3 p q r i : Int) : ∃ (a0 a1 a2 a3 a4 : Int) (a5 : Bool), backC v d s u st s0 s1 s2 s3 p q r i = #[.int .i64 a0, .int .i64 a1, .int .i64 a2, .int .i64 a3, .int .i64 a4, .bool a5] := by
  unfold backC
  split
  · split
    · exact ⟨_, _, _, _, _, _, rfl⟩
    · split <;> exact ⟨_, _, _, _, _, _, rfl⟩
  · exact ⟨_, _, _, _, _, _, rfl⟩

set_option maxRecDepth 100000 in
set_option maxHeartbeats 8000000 in
theorem walk (v d s u st s0 s1 s2 s3 p q r sg fr : Int) (w : World) (_ : (Lit.int .i64 sg).wf = true) (_ : (Lit.int .i64 fr).wf = true) : Calls Try.prog 6 #[.agg #[.int .i64 v, .int .i64 d, .int .i64 s, .int .i64 u, .int .i64 st, .int .i64 s0, .int .i64 s1, .int .i64 s2, .int .i64 s3, .int .i64 p, .int .i64 q, .int .i64 r], .int .i64 sg, .int .i64 fr] w fun e w' => e = .returned (.bool true) ∧ Below w.heap.size w w' := by
  have HB := Aside0.mk (Below.refl w.heap.size w)
  go_enter Try.func6, Try.ntmps6
  go_wp2_with fail
  refine (B4.lives_q _).mono ?_
  rintro e w1 ⟨rfl, hb1⟩
  have D : IsBlk w1 (w.heap.size) #[.int .i64 v, .int .i64 d, .int .i64 s, .int .i64 u, .int .i64 st, .int .i64 s0, .int .i64 s1, .int .i64 s2, .int .i64 s3, .int .i64 p, .int .i64 q, .int .i64 r] 24 := IsBlk.below (by repeat (first | ((refine IsBlk.new _ _ ?_); (simp; done)) | apply IsBlk.alloc | apply IsBlk.drewN)) hb1
  have D_0 := blk_cell D 0
  have D_1 := blk_cell D 1
  have D_2 := blk_cell D 2
  have D_3 := blk_cell D 3
  have D_4 := blk_cell D 4
  have D_5 := blk_cell D 5
  have D_6 := blk_cell D 6
  have D_7 := blk_cell D 7
  have D_8 := blk_cell D 8
  have D_9 := blk_cell D 9
  have D_10 := blk_cell D 10
  have D_11 := blk_cell D 11
  simp only [List.getElem?_toArray, List.getElem?_cons_zero, List.getElem?_cons_succ] at D_0 D_1 D_2 D_3 D_4 D_5 D_6 D_7 D_8 D_9 D_10 D_11
  have D_l := blk_lt D
  have HD := Aside0.mk D
  clear D
  have n0 := Aside0.mk (below_step (by repeat (first | (with_reducible first | exact HB.out | apply below_alloc | apply pw_below_drewN | apply below_drew1) | refine below_set ?_ (by omega))) hb1)
  clear HB hb1
  have HB := n0
  clear n0
  go_wp2_with fail
  refine (good_q v d s u st s0 s1 s2 s3 p q r _).mono ?_
  rintro e w2 ⟨y0, y1, y2, y3, y4, y5, y6, y7, y8, y9, y10, y11, rfl, hM, hb1⟩
  clear hM
  have D' := IsBlk.below (by repeat (with_reducible first | exact HD.out | apply IsBlk.alloc | apply IsBlk.drewN | apply IsBlk.drew)) hb1
  clear D_0 D_1 D_2 D_3 D_4 D_5 D_6 D_7 D_8 D_9 D_10 D_11 D_l HD
  have D := D'
  clear D'
  have D_0 := blk_cell D 0
  have D_1 := blk_cell D 1
  have D_2 := blk_cell D 2
  have D_3 := blk_cell D 3
  have D_4 := blk_cell D 4
  have D_5 := blk_cell D 5
  have D_6 := blk_cell D 6
  have D_7 := blk_cell D 7
  have D_8 := blk_cell D 8
  have D_9 := blk_cell D 9
  have D_10 := blk_cell D 10
  have D_11 := blk_cell D 11
  simp only [List.getElem?_toArray, List.getElem?_cons_zero, List.getElem?_cons_succ] at D_0 D_1 D_2 D_3 D_4 D_5 D_6 D_7 D_8 D_9 D_10 D_11
  have D_l := blk_lt D
  have HD := Aside0.mk D
  clear D
  have n0 := Aside0.mk (below_step (by repeat (first | (with_reducible first | exact HB.out | apply below_alloc | apply pw_below_drewN | apply below_drew1) | refine below_set ?_ (by omega))) hb1)
  clear HB hb1
  have HB := n0
  clear n0
  go_wp2_with fail
  have hG2 : ∃ g2, IsBlk (((w2.alloc (.cells #[.int .i64 y0, .int .i64 y1, .int .i64 y2, .int .i64 y3, .int .i64 y4, .int .i64 y5, .int .i64 y6, .int .i64 y7, .int .i64 y8, .int .i64 y9, .int .i64 y10, .int .i64 y11] 24)).alloc (.cells #[.int .i64 v, .int .i64 d, .int .i64 s, .int .i64 u, .int .i64 st, .int .i64 s0, .int .i64 s1, .int .i64 s2, .int .i64 s3, .int .i64 p, .int .i64 q, .int .i64 r, .int .i64 y0, .int .i64 y1, .int .i64 y2, .int .i64 y3, .int .i64 y4, .int .i64 y5, .int .i64 y6, .int .i64 y7, .int .i64 y8, .int .i64 y9, .int .i64 y10, .int .i64 y11] 24))) g2 #[.int .i64 v, .int .i64 d, .int .i64 s, .int .i64 u, .int .i64 st, .int .i64 s0, .int .i64 s1, .int .i64 s2, .int .i64 s3, .int .i64 p, .int .i64 q, .int .i64 r, .int .i64 y0, .int .i64 y1, .int .i64 y2, .int .i64 y3, .int .i64 y4, .int .i64 y5, .int .i64 y6, .int .i64 y7, .int .i64 y8, .int .i64 y9, .int .i64 y10, .int .i64 y11] 24 ∧ g2 = w2.heap.size + 1 := ⟨_, IsBlk.new _ _ (by simp), rfl⟩
  obtain ⟨g2, hG2, hg2⟩ := hG2
  rw [← hg2]
  have hgb : w.heap.size ≤ g2 := by have := below_size (by repeat (first | (with_reducible first | exact HB.out | apply below_alloc | apply pw_below_drewN | apply below_drew1) | refine below_set ?_ (by omega))); omega
  clear hg2
  go_loopw [9] (fun v9 wr => ∃ k : Int, v9 = .int .i64 k ∧ 0 ≤ k ∧ k ≤ 2 ∧ Aside0 (IsBlk wr g2 #[.int .i64 v, .int .i64 d, .int .i64 s, .int .i64 u, .int .i64 st, .int .i64 s0, .int .i64 s1, .int .i64 s2, .int .i64 s3, .int .i64 p, .int .i64 q, .int .i64 r, .int .i64 y0, .int .i64 y1, .int .i64 y2, .int .i64 y3, .int .i64 y4, .int .i64 y5, .int .i64 y6, .int .i64 y7, .int .i64 y8, .int .i64 y9, .int .i64 y10, .int .i64 y11] 24) ∧ Aside0 (Below w.heap.size w wr)) (fun v9 _ => 2 - (intOf v9).toNat)
  case atStart => exact ⟨0, rfl, by omega, by omega, ⟨hG2⟩, ⟨by repeat (first | (with_reducible first | exact HB.out | apply below_alloc | apply pw_below_drewN | apply below_drew1) | refine below_set ?_ (by omega))⟩⟩
  case round =>
    clear D_0 D_1 D_2 D_3 D_4 D_5 D_6 D_7 D_8 D_9 D_10 D_11 D_l HD
    clear HB hG2
    obtain ⟨k, rfl, hk0, hk2, HG2, HB⟩ := hrel
    obtain ⟨wq, hwq⟩ : ∃ x, x = wr := ⟨_, rfl⟩
    subst hwq
    by_cases hk : k = 2
    · subst hk
      go_wp2
      go_ret
      exact ⟨rfl, HB.out⟩
    · have hkl : k < 2 := by omega
      have hkd : decide (k < 2) = true := by simpa using hkl
      clear hk
      rcases (by omega : k = 0 ∨ k = 1) with rfl | rfl
      · have G2 := HG2.out
        have G2_0 := blk_cell G2 0
        have G2_1 := blk_cell G2 1
        have G2_2 := blk_cell G2 2
        have G2_3 := blk_cell G2 3
        have G2_4 := blk_cell G2 4
        have G2_5 := blk_cell G2 5
        have G2_6 := blk_cell G2 6
        have G2_7 := blk_cell G2 7
        have G2_8 := blk_cell G2 8
        have G2_9 := blk_cell G2 9
        have G2_10 := blk_cell G2 10
        have G2_11 := blk_cell G2 11
        have G2_12 := blk_cell G2 12
        have G2_13 := blk_cell G2 13
        have G2_14 := blk_cell G2 14
        have G2_15 := blk_cell G2 15
        have G2_16 := blk_cell G2 16
        have G2_17 := blk_cell G2 17
        have G2_18 := blk_cell G2 18
        have G2_19 := blk_cell G2 19
        have G2_20 := blk_cell G2 20
        have G2_21 := blk_cell G2 21
        have G2_22 := blk_cell G2 22
        have G2_23 := blk_cell G2 23
        simp only [List.getElem?_toArray, List.getElem?_cons_zero, List.getElem?_cons_succ] at G2_0 G2_1 G2_2 G2_3 G2_4 G2_5 G2_6 G2_7 G2_8 G2_9 G2_10 G2_11 G2_12 G2_13 G2_14 G2_15 G2_16 G2_17 G2_18 G2_19 G2_20 G2_21 G2_22 G2_23
        have G2_l := blk_lt G2
        have HG3 := Aside0.mk G2
        clear G2
        clear hk0 hk2 hkl hkd
        obtain ⟨a0, a1, a2, a3, a4, a5, ho⟩ := on_shape v d s u st s0 s1 s2 s3 p q r sg
        obtain ⟨e0, e1, e2, e3, e4, e5, hq⟩ := back_shape v d s u st s0 s1 s2 s3 p q r fr
        have HO := Aside0.mk ho
        have HK := Aside0.mk hq
        clear ho hq
        go_upto_region 8 with fail
        refine start_ (n := 28) (S := fun w' => w'.cell? ⟨g2, 0, none⟩ = some (.int .i64 v) ∧ w'.cell? ⟨g2, 1, none⟩ = some (.int .i64 d) ∧ w'.cell? ⟨g2, 2, none⟩ = some (.int .i64 s) ∧ w'.cell? ⟨g2, 3, none⟩ = some (.int .i64 u) ∧ w'.cell? ⟨g2, 4, none⟩ = some (.int .i64 st) ∧ w'.cell? ⟨g2, 5, none⟩ = some (.int .i64 s0) ∧ w'.cell? ⟨g2, 6, none⟩ = some (.int .i64 s1) ∧ w'.cell? ⟨g2, 7, none⟩ = some (.int .i64 s2) ∧ w'.cell? ⟨g2, 8, none⟩ = some (.int .i64 s3) ∧ w'.cell? ⟨g2, 9, none⟩ = some (.int .i64 p) ∧ w'.cell? ⟨g2, 10, none⟩ = some (.int .i64 q) ∧ w'.cell? ⟨g2, 11, none⟩ = some (.int .i64 r)) (ds := []) #[false, false, false, false, false, false, false, false, false, false, false, false, false, false, false, false, false, false, false, false, false, false, false, false, false, false, false, false] (by kernel_rfl) rfl rfl ⟨G2_0, G2_1, G2_2, G2_3, G2_4, G2_5, G2_6, G2_7, G2_8, G2_9, G2_10, G2_11⟩ (fun hHeld => ?_)
        refine pure_ (i := 0) (N := some 21) (v := ?_) (a' := ?_) #[true, false, false, false, false, false, false, false, false, false, false, false, false, false, false, false, false, false, false, false, false, false, false, false, false, false, false, false] rfl rfl (by kernel_rfl) (fun _ _ _ h => h) (Or.inl ⟨by rfl, ?_⟩) ?_ ?_
        rotate_left
        · intro w'
          go_simp
          with_reducible rfl
        rotate_left
        · simp only [Act.put, List.setIfInBounds_toArray, List.set_cons_zero, List.set_cons_succ, i64_w, i32_w]
          rfl
        refine pure_ (i := 1) (N := some 22) (v := ?_) (a' := ?_) #[true, true, false, false, false, false, false, false, false, false, false, false, false, false, false, false, false, false, false, false, false, false, false, false, false, false, false, false] rfl rfl (by kernel_rfl) (fun _ _ _ h => h) (Or.inl ⟨by rfl, ?_⟩) ?_ ?_
        rotate_left
        · intro w'
          go_simp
          with_reducible rfl
        rotate_left
        · simp only [Act.put, List.setIfInBounds_toArray, List.set_cons_zero, List.set_cons_succ, i64_w, i32_w]
          rfl
        refine pure_ (i := 2) (N := some 23) (v := ?_) (a' := ?_) #[true, true, true, false, false, false, false, false, false, false, false, false, false, false, false, false, false, false, false, false, false, false, false, false, false, false, false, false] rfl rfl (by kernel_rfl) (fun _ _ _ h => h) (Or.inl ⟨by rfl, ?_⟩) ?_ ?_
        rotate_left
        · intro w'
          go_simp
          with_reducible rfl
        rotate_left
        · simp only [Act.put, List.setIfInBounds_toArray, List.set_cons_zero, List.set_cons_succ, i64_w, i32_w]
          rfl
        refine pure_ (i := 4) (N := some 25) (v := ?_) (a' := ?_) #[true, true, true, false, true, false, false, false, false, false, false, false, false, false, false, false, false, false, false, false, false, false, false, false, false, false, false, false] rfl rfl (by kernel_rfl) (fun _ _ _ h => h) (Or.inl ⟨by rfl, ?_⟩) ?_ ?_
        rotate_left
        · intro w'
          go_simp
          with_reducible rfl
        rotate_left
        · simp only [Act.put, List.setIfInBounds_toArray, List.set_cons_zero, List.set_cons_succ, i64_w, i32_w]
          rfl
        refine pure_ (i := 6) (N := some 27) (v := ?_) (a' := ?_) #[true, true, true, false, true, false, true, false, false, false, false, false, false, false, false, false, false, false, false, false, false, false, false, false, false, false, false, false] rfl rfl (by kernel_rfl) (fun _ _ _ h => h) (Or.inl ⟨by rfl, ?_⟩) ?_ ?_
        rotate_left
        · intro w'
          go_simp
          with_reducible rfl
        rotate_left
        · simp only [Act.put, List.setIfInBounds_toArray, List.set_cons_zero, List.set_cons_succ, i64_w, i32_w]
          rfl
        refine pure_ (i := 7) (N := some 28) (v := ?_) (a' := ?_) #[true, true, true, false, true, false, true, true, false, false, false, false, false, false, false, false, false, false, false, false, false, false, false, false, false, false, false, false] rfl rfl (by kernel_rfl) (fun _ _ _ h => h) (Or.inl ⟨by rfl, ?_⟩) ?_ ?_
        rotate_left
        · intro w'
          go_simp
          with_reducible rfl
        rotate_left
        · simp only [Act.put, List.setIfInBounds_toArray, List.set_cons_zero, List.set_cons_succ, i64_w, i32_w]
          rfl
        refine pure_ (i := 8) (N := some 29) (v := ?_) (a' := ?_) #[true, true, true, false, true, false, true, true, true, false, false, false, false, false, false, false, false, false, false, false, false, false, false, false, false, false, false, false] rfl rfl (by kernel_rfl) (fun _ _ _ h => h) (Or.inl ⟨by rfl, ?_⟩) ?_ ?_
        rotate_left
        · intro w'
          go_simp
          with_reducible rfl
        rotate_left
        · simp only [Act.put, List.setIfInBounds_toArray, List.set_cons_zero, List.set_cons_succ, i64_w, i32_w]
          rfl
        refine pure_ (i := 10) (N := some 31) (v := ?_) (a' := ?_) #[true, true, true, false, true, false, true, true, true, false, true, false, false, false, false, false, false, false, false, false, false, false, false, false, false, false, false, false] rfl rfl (by kernel_rfl) (fun _ _ _ h => h) (Or.inl ⟨by rfl, ?_⟩) ?_ ?_
        rotate_left
        · intro w'
          go_simp
          with_reducible rfl
        rotate_left
        · simp only [Act.put, List.setIfInBounds_toArray, List.set_cons_zero, List.set_cons_succ, i64_w, i32_w]
          rfl
        refine take_ (i := 3) (N := some 24) (v := ?_) (a' := ?_) #[true, true, true, true, true, false, true, true, true, false, true, false, false, false, false, false, false, false, false, false, false, false, false, false, false, false, false, false] rfl rfl (by kernel_rfl) (fun _ _ _ h => h) (Or.inl ⟨by rfl, ?_⟩) hHeld ?_ ?_
        rotate_left
        · rintro w' ⟨s0, s1, s2, s3, s4, s5, s6, s7, s8, s9, s10, s11⟩
          go_simp
          with_reducible rfl
        rotate_left
        · simp only [Act.put, List.setIfInBounds_toArray, List.set_cons_zero, List.set_cons_succ, i64_w, i32_w]
          rfl
        refine take_ (i := 9) (N := some 30) (v := ?_) (a' := ?_) #[true, true, true, true, true, false, true, true, true, true, true, false, false, false, false, false, false, false, false, false, false, false, false, false, false, false, false, false] rfl rfl (by kernel_rfl) (fun _ _ _ h => h) (Or.inl ⟨by rfl, ?_⟩) hHeld ?_ ?_
        rotate_left
        · rintro w' ⟨s0, s1, s2, s3, s4, s5, s6, s7, s8, s9, s10, s11⟩
          go_simp
          with_reducible rfl
        rotate_left
        · simp only [Act.put, List.setIfInBounds_toArray, List.set_cons_zero, List.set_cons_succ, i64_w, i32_w]
          rfl
        refine one_ (i := 5) (N := some 26) #[true, true, true, true, true, true, true, true, true, true, true, false, false, false, false, false, false, false, false, false, false, false, false, false, false, false, false, false] rfl rfl (by kernel_rfl) (by decide) (fun K hK => ?_)
        refine goes_ Try.func18 (by kernel_rfl) rfl #[.agg #[.int .i64 v, .int .i64 d, .int .i64 s, .int .i64 u, .int .i64 st, .int .i64 s0, .int .i64 s1, .int .i64 s2, .int .i64 s3, .int .i64 p, .int .i64 q, .int .i64 r], .int .i64 sg] (by rfl) rfl rfl (by simp only [List.map_toArray, List.map_cons, List.map_nil]; rfl) ?_
        with_reducible refine (on_a v d s u st s0 s1 s2 s3 p q r sg _).mono ?_
        rw [HO.out]
        rintro e w3 ⟨rfl, hb3⟩
        have n0 := Aside0.mk (below_step (by repeat (first | (with_reducible first | exact HB.out | apply below_alloc | apply pw_below_drewN | apply below_drew1) | refine below_set ?_ (by omega))) hb3)
        clear HB
        have HB := n0
        clear n0
        have nG := Aside0.mk (IsBlk.below (by repeat (with_reducible first | exact HG2.out | apply IsBlk.alloc | apply IsBlk.drewN | apply IsBlk.drew)) hb3)
        clear HG2
        have HG2 := nG
        clear nG
        refine ⟨_, rfl, ?_⟩
        refine hK.out _ _ ⟨cell_keep hb3 hHeld.1, cell_keep hb3 hHeld.2.1, cell_keep hb3 hHeld.2.2.1, cell_keep hb3 hHeld.2.2.2.1, cell_keep hb3 hHeld.2.2.2.2.1, cell_keep hb3 hHeld.2.2.2.2.2.1, cell_keep hb3 hHeld.2.2.2.2.2.2.1, cell_keep hb3 hHeld.2.2.2.2.2.2.2.1, cell_keep hb3 hHeld.2.2.2.2.2.2.2.2.1, cell_keep hb3 hHeld.2.2.2.2.2.2.2.2.2.1, cell_keep hb3 hHeld.2.2.2.2.2.2.2.2.2.2.1, cell_keep hb3 hHeld.2.2.2.2.2.2.2.2.2.2.2⟩ (fun hHeld => ?_)
        clear hK K
        refine norm_ (a' := ?_) ?_ ?_
        rotate_left
        · show Act.put _ (some 26) _ = _
          simp only [Act.put, List.setIfInBounds_toArray, List.set_cons_zero, List.set_cons_succ, i64_w, i32_w]
          rfl
        refine one_ (i := 11) (N := some 32) #[true, true, true, true, true, true, true, true, true, true, true, true, false, false, false, false, false, false, false, false, false, false, false, false, false, false, false, false] rfl rfl (by kernel_rfl) (by decide) (fun K hK => ?_)
        refine goes_ Try.func19 (by kernel_rfl) rfl #[.agg #[.int .i64 v, .int .i64 d, .int .i64 s, .int .i64 u, .int .i64 st, .int .i64 s0, .int .i64 s1, .int .i64 s2, .int .i64 s3, .int .i64 p, .int .i64 q, .int .i64 r], .int .i64 sg] (by rfl) rfl rfl (by simp only [List.map_toArray, List.map_cons, List.map_nil]; rfl) ?_
        with_reducible refine (on_b v d s u st s0 s1 s2 s3 p q r sg _).mono ?_
        rw [HO.out]
        rintro e w4 ⟨rfl, hb4⟩
        have n0 := Aside0.mk (below_step (by repeat (first | (with_reducible first | exact HB.out | apply below_alloc | apply pw_below_drewN | apply below_drew1) | refine below_set ?_ (by omega))) hb4)
        clear HB
        have HB := n0
        clear n0
        have nG := Aside0.mk (IsBlk.below (by repeat (with_reducible first | exact HG2.out | apply IsBlk.alloc | apply IsBlk.drewN | apply IsBlk.drew)) hb4)
        clear HG2
        have HG2 := nG
        clear nG
        refine ⟨_, rfl, ?_⟩
        refine hK.out _ _ ⟨cell_keep hb4 hHeld.1, cell_keep hb4 hHeld.2.1, cell_keep hb4 hHeld.2.2.1, cell_keep hb4 hHeld.2.2.2.1, cell_keep hb4 hHeld.2.2.2.2.1, cell_keep hb4 hHeld.2.2.2.2.2.1, cell_keep hb4 hHeld.2.2.2.2.2.2.1, cell_keep hb4 hHeld.2.2.2.2.2.2.2.1, cell_keep hb4 hHeld.2.2.2.2.2.2.2.2.1, cell_keep hb4 hHeld.2.2.2.2.2.2.2.2.2.1, cell_keep hb4 hHeld.2.2.2.2.2.2.2.2.2.2.1, cell_keep hb4 hHeld.2.2.2.2.2.2.2.2.2.2.2⟩ (fun hHeld => ?_)
        clear hK K
        refine norm_ (a' := ?_) ?_ ?_
        rotate_left
        · show Act.put _ (some 32) _ = _
          simp only [Act.put, List.setIfInBounds_toArray, List.set_cons_zero, List.set_cons_succ, i64_w, i32_w]
          rfl
        refine pure_ (i := 12) (N := some 33) (v := ?_) (a' := ?_) #[true, true, true, true, true, true, true, true, true, true, true, true, true, false, false, false, false, false, false, false, false, false, false, false, false, false, false, false] rfl rfl (by kernel_rfl) (fun _ _ _ h => h) (Or.inl ⟨by rfl, ?_⟩) ?_ ?_
        rotate_left
        · intro w'
          go_simp
          with_reducible rfl
        rotate_left
        · simp only [Act.put, List.setIfInBounds_toArray, List.set_cons_zero, List.set_cons_succ, i64_w, i32_w]
          rfl
        refine pure_ (i := 13) (N := some 34) (v := ?_) (a' := ?_) #[true, true, true, true, true, true, true, true, true, true, true, true, true, true, false, false, false, false, false, false, false, false, false, false, false, false, false, false] rfl rfl (by kernel_rfl) (fun _ _ _ h => h) (Or.inl ⟨by rfl, ?_⟩) ?_ ?_
        rotate_left
        · intro w'
          go_simp
          with_reducible rfl
        rotate_left
        · simp only [Act.put, List.setIfInBounds_toArray, List.set_cons_zero, List.set_cons_succ, i64_w, i32_w]
          rfl
        refine pure_ (i := 14) (N := some 35) (v := ?_) (a' := ?_) #[true, true, true, true, true, true, true, true, true, true, true, true, true, true, true, false, false, false, false, false, false, false, false, false, false, false, false, false] rfl rfl (by kernel_rfl) (fun _ _ _ h => h) (Or.inl ⟨by rfl, ?_⟩) ?_ ?_
        rotate_left
        · intro w'
          go_simp
          with_reducible rfl
        rotate_left
        · simp only [Act.put, List.setIfInBounds_toArray, List.set_cons_zero, List.set_cons_succ, i64_w, i32_w]
          rfl
        refine pure_ (i := 15) (N := some 36) (v := ?_) (a' := ?_) #[true, true, true, true, true, true, true, true, true, true, true, true, true, true, true, true, false, false, false, false, false, false, false, false, false, false, false, false] rfl rfl (by kernel_rfl) (fun _ _ _ h => h) (Or.inl ⟨by rfl, ?_⟩) ?_ ?_
        rotate_left
        · intro w'
          go_simp
          with_reducible rfl
        rotate_left
        · simp only [Act.put, List.setIfInBounds_toArray, List.set_cons_zero, List.set_cons_succ, i64_w, i32_w]
          rfl
        refine pure_ (i := 16) (N := some 37) (v := ?_) (a' := ?_) #[true, true, true, true, true, true, true, true, true, true, true, true, true, true, true, true, true, false, false, false, false, false, false, false, false, false, false, false] rfl rfl (by kernel_rfl) (fun _ _ _ h => h) (Or.inl ⟨by rfl, ?_⟩) ?_ ?_
        rotate_left
        · intro w'
          go_simp
          with_reducible rfl
        rotate_left
        · simp only [Act.put, List.setIfInBounds_toArray, List.set_cons_zero, List.set_cons_succ, i64_w, i32_w]
          rfl
        refine pure_ (i := 18) (N := some 39) (v := ?_) (a' := ?_) #[true, true, true, true, true, true, true, true, true, true, true, true, true, true, true, true, true, false, true, false, false, false, false, false, false, false, false, false] rfl rfl (by kernel_rfl) (fun _ _ _ h => h) (Or.inl ⟨by rfl, ?_⟩) ?_ ?_
        rotate_left
        · intro w'
          go_simp
          with_reducible rfl
        rotate_left
        · simp only [Act.put, List.setIfInBounds_toArray, List.set_cons_zero, List.set_cons_succ, i64_w, i32_w]
          rfl
        refine pure_ (i := 20) (N := some 41) (v := ?_) (a' := ?_) #[true, true, true, true, true, true, true, true, true, true, true, true, true, true, true, true, true, false, true, false, true, false, false, false, false, false, false, false] rfl rfl (by kernel_rfl) (fun _ _ _ h => h) (Or.inl ⟨by rfl, ?_⟩) ?_ ?_
        rotate_left
        · intro w'
          go_simp
          with_reducible rfl
        rotate_left
        · simp only [Act.put, List.setIfInBounds_toArray, List.set_cons_zero, List.set_cons_succ, i64_w, i32_w]
          rfl
        refine pure_ (i := 21) (N := some 42) (v := ?_) (a' := ?_) #[true, true, true, true, true, true, true, true, true, true, true, true, true, true, true, true, true, false, true, false, true, true, false, false, false, false, false, false] rfl rfl (by kernel_rfl) (fun _ _ _ h => h) (Or.inl ⟨by rfl, ?_⟩) ?_ ?_
        rotate_left
        · intro w'
          go_simp
          with_reducible rfl
        rotate_left
        · simp only [Act.put, List.setIfInBounds_toArray, List.set_cons_zero, List.set_cons_succ, i64_w, i32_w]
          rfl
        refine pure_ (i := 22) (N := some 43) (v := ?_) (a' := ?_) #[true, true, true, true, true, true, true, true, true, true, true, true, true, true, true, true, true, false, true, false, true, true, true, false, false, false, false, false] rfl rfl (by kernel_rfl) (fun _ _ _ h => h) (Or.inl ⟨by rfl, ?_⟩) ?_ ?_
        rotate_left
        · intro w'
          go_simp
          with_reducible rfl
        rotate_left
        · simp only [Act.put, List.setIfInBounds_toArray, List.set_cons_zero, List.set_cons_succ, i64_w, i32_w]
          rfl
        refine pure_ (i := 24) (N := some 45) (v := ?_) (a' := ?_) #[true, true, true, true, true, true, true, true, true, true, true, true, true, true, true, true, true, false, true, false, true, true, true, false, true, false, false, false] rfl rfl (by kernel_rfl) (fun _ _ _ h => h) (Or.inl ⟨by rfl, ?_⟩) ?_ ?_
        rotate_left
        · intro w'
          go_simp
          with_reducible rfl
        rotate_left
        · simp only [Act.put, List.setIfInBounds_toArray, List.set_cons_zero, List.set_cons_succ, i64_w, i32_w]
          rfl
        refine take_ (i := 17) (N := some 38) (v := ?_) (a' := ?_) #[true, true, true, true, true, true, true, true, true, true, true, true, true, true, true, true, true, true, true, false, true, true, true, false, true, false, false, false] rfl rfl (by kernel_rfl) (fun _ _ _ h => h) (Or.inl ⟨by rfl, ?_⟩) hHeld ?_ ?_
        rotate_left
        · rintro w' ⟨s0, s1, s2, s3, s4, s5, s6, s7, s8, s9, s10, s11⟩
          go_simp
          with_reducible rfl
        rotate_left
        · simp only [Act.put, List.setIfInBounds_toArray, List.set_cons_zero, List.set_cons_succ, i64_w, i32_w]
          rfl
        refine take_ (i := 23) (N := some 44) (v := ?_) (a' := ?_) #[true, true, true, true, true, true, true, true, true, true, true, true, true, true, true, true, true, true, true, false, true, true, true, true, true, false, false, false] rfl rfl (by kernel_rfl) (fun _ _ _ h => h) (Or.inl ⟨by rfl, ?_⟩) hHeld ?_ ?_
        rotate_left
        · rintro w' ⟨s0, s1, s2, s3, s4, s5, s6, s7, s8, s9, s10, s11⟩
          go_simp
          with_reducible rfl
        rotate_left
        · simp only [Act.put, List.setIfInBounds_toArray, List.set_cons_zero, List.set_cons_succ, i64_w, i32_w]
          rfl
        refine one_ (i := 19) (N := some 40) #[true, true, true, true, true, true, true, true, true, true, true, true, true, true, true, true, true, true, true, true, true, true, true, true, true, false, false, false] rfl rfl (by kernel_rfl) (by decide) (fun K hK => ?_)
        refine goes_ Try.func20 (by kernel_rfl) rfl #[.agg #[.int .i64 v, .int .i64 d, .int .i64 s, .int .i64 u, .int .i64 st, .int .i64 s0, .int .i64 s1, .int .i64 s2, .int .i64 s3, .int .i64 p, .int .i64 q, .int .i64 r], .int .i64 fr] (by rfl) rfl rfl (by simp only [List.map_toArray, List.map_cons, List.map_nil]; rfl) ?_
        with_reducible refine (back_a v d s u st s0 s1 s2 s3 p q r fr _).mono ?_
        rw [HK.out]
        rintro e w5 ⟨rfl, hb5⟩
        have n0 := Aside0.mk (below_step (by repeat (first | (with_reducible first | exact HB.out | apply below_alloc | apply pw_below_drewN | apply below_drew1) | refine below_set ?_ (by omega))) hb5)
        clear HB
        have HB := n0
        clear n0
        have nG := Aside0.mk (IsBlk.below (by repeat (with_reducible first | exact HG2.out | apply IsBlk.alloc | apply IsBlk.drewN | apply IsBlk.drew)) hb5)
        clear HG2
        have HG2 := nG
        clear nG
        refine ⟨_, rfl, ?_⟩
        refine hK.out _ _ ⟨cell_keep hb5 hHeld.1, cell_keep hb5 hHeld.2.1, cell_keep hb5 hHeld.2.2.1, cell_keep hb5 hHeld.2.2.2.1, cell_keep hb5 hHeld.2.2.2.2.1, cell_keep hb5 hHeld.2.2.2.2.2.1, cell_keep hb5 hHeld.2.2.2.2.2.2.1, cell_keep hb5 hHeld.2.2.2.2.2.2.2.1, cell_keep hb5 hHeld.2.2.2.2.2.2.2.2.1, cell_keep hb5 hHeld.2.2.2.2.2.2.2.2.2.1, cell_keep hb5 hHeld.2.2.2.2.2.2.2.2.2.2.1, cell_keep hb5 hHeld.2.2.2.2.2.2.2.2.2.2.2⟩ (fun hHeld => ?_)
        clear hK K
        refine norm_ (a' := ?_) ?_ ?_
        rotate_left
        · show Act.put _ (some 40) _ = _
          simp only [Act.put, List.setIfInBounds_toArray, List.set_cons_zero, List.set_cons_succ, i64_w, i32_w]
          rfl
        refine one_ (i := 25) (N := some 46) #[true, true, true, true, true, true, true, true, true, true, true, true, true, true, true, true, true, true, true, true, true, true, true, true, true, true, false, false] rfl rfl (by kernel_rfl) (by decide) (fun K hK => ?_)
        refine goes_ Try.func21 (by kernel_rfl) rfl #[.agg #[.int .i64 v, .int .i64 d, .int .i64 s, .int .i64 u, .int .i64 st, .int .i64 s0, .int .i64 s1, .int .i64 s2, .int .i64 s3, .int .i64 p, .int .i64 q, .int .i64 r], .int .i64 fr] (by rfl) rfl rfl (by simp only [List.map_toArray, List.map_cons, List.map_nil]; rfl) ?_
        with_reducible refine (back_b v d s u st s0 s1 s2 s3 p q r fr _).mono ?_
        rw [HK.out]
        rintro e w6 ⟨rfl, hb6⟩
        have n0 := Aside0.mk (below_step (by repeat (first | (with_reducible first | exact HB.out | apply below_alloc | apply pw_below_drewN | apply below_drew1) | refine below_set ?_ (by omega))) hb6)
        clear HB
        have HB := n0
        clear n0
        have nG := Aside0.mk (IsBlk.below (by repeat (with_reducible first | exact HG2.out | apply IsBlk.alloc | apply IsBlk.drewN | apply IsBlk.drew)) hb6)
        clear HG2
        have HG2 := nG
        clear nG
        refine ⟨_, rfl, ?_⟩
        refine hK.out _ _ ⟨cell_keep hb6 hHeld.1, cell_keep hb6 hHeld.2.1, cell_keep hb6 hHeld.2.2.1, cell_keep hb6 hHeld.2.2.2.1, cell_keep hb6 hHeld.2.2.2.2.1, cell_keep hb6 hHeld.2.2.2.2.2.1, cell_keep hb6 hHeld.2.2.2.2.2.2.1, cell_keep hb6 hHeld.2.2.2.2.2.2.2.1, cell_keep hb6 hHeld.2.2.2.2.2.2.2.2.1, cell_keep hb6 hHeld.2.2.2.2.2.2.2.2.2.1, cell_keep hb6 hHeld.2.2.2.2.2.2.2.2.2.2.1, cell_keep hb6 hHeld.2.2.2.2.2.2.2.2.2.2.2⟩ (fun hHeld => ?_)
        clear hK K
        refine norm_ (a' := ?_) ?_ ?_
        rotate_left
        · show Act.put _ (some 46) _ = _
          simp only [Act.put, List.setIfInBounds_toArray, List.set_cons_zero, List.set_cons_succ, i64_w, i32_w]
          rfl
        refine pure_ (i := 26) (N := some 47) (v := ?_) (a' := ?_) #[true, true, true, true, true, true, true, true, true, true, true, true, true, true, true, true, true, true, true, true, true, true, true, true, true, true, true, false] rfl rfl (by kernel_rfl) (fun _ _ _ h => h) (Or.inl ⟨by rfl, ?_⟩) ?_ ?_
        rotate_left
        · intro w'
          go_simp
          with_reducible rfl
        rotate_left
        · simp only [Act.put, List.setIfInBounds_toArray, List.set_cons_zero, List.set_cons_succ, i64_w, i32_w]
          rfl
        refine pure_ (i := 27) (N := some 48) (v := ?_) (a' := ?_) #[true, true, true, true, true, true, true, true, true, true, true, true, true, true, true, true, true, true, true, true, true, true, true, true, true, true, true, true] rfl rfl (by kernel_rfl) (fun _ _ _ h => h) (Or.inl ⟨by rfl, ?_⟩) ?_ ?_
        rotate_left
        · intro w'
          go_simp
          with_reducible rfl
        rotate_left
        · simp only [Act.put, List.setIfInBounds_toArray, List.set_cons_zero, List.set_cons_succ, i64_w, i32_w]
          rfl
        refine done_ (by kernel_rfl) ?_
        go_wp2
        go_roundw
        case rel => exact ⟨1, by first | rfl | go_num | (simp; done), by omega, by omega, HG2, HB⟩
        case measure => simp [intOf]
      · have G2 := HG2.out
        have G2_0 := blk_cell G2 0
        have G2_1 := blk_cell G2 1
        have G2_2 := blk_cell G2 2
        have G2_3 := blk_cell G2 3
        have G2_4 := blk_cell G2 4
        have G2_5 := blk_cell G2 5
        have G2_6 := blk_cell G2 6
        have G2_7 := blk_cell G2 7
        have G2_8 := blk_cell G2 8
        have G2_9 := blk_cell G2 9
        have G2_10 := blk_cell G2 10
        have G2_11 := blk_cell G2 11
        have G2_12 := blk_cell G2 12
        have G2_13 := blk_cell G2 13
        have G2_14 := blk_cell G2 14
        have G2_15 := blk_cell G2 15
        have G2_16 := blk_cell G2 16
        have G2_17 := blk_cell G2 17
        have G2_18 := blk_cell G2 18
        have G2_19 := blk_cell G2 19
        have G2_20 := blk_cell G2 20
        have G2_21 := blk_cell G2 21
        have G2_22 := blk_cell G2 22
        have G2_23 := blk_cell G2 23
        simp only [List.getElem?_toArray, List.getElem?_cons_zero, List.getElem?_cons_succ] at G2_0 G2_1 G2_2 G2_3 G2_4 G2_5 G2_6 G2_7 G2_8 G2_9 G2_10 G2_11 G2_12 G2_13 G2_14 G2_15 G2_16 G2_17 G2_18 G2_19 G2_20 G2_21 G2_22 G2_23
        have G2_l := blk_lt G2
        have HG3 := Aside0.mk G2
        clear G2
        clear hk0 hk2 hkl hkd
        obtain ⟨a0, a1, a2, a3, a4, a5, ho⟩ := on_shape y0 y1 y2 y3 y4 y5 y6 y7 y8 y9 y10 y11 sg
        obtain ⟨e0, e1, e2, e3, e4, e5, hq⟩ := back_shape y0 y1 y2 y3 y4 y5 y6 y7 y8 y9 y10 y11 fr
        have HO := Aside0.mk ho
        have HK := Aside0.mk hq
        clear ho hq
        go_upto_region 8 with fail
        refine start_ (n := 28) (S := fun w' => w'.cell? ⟨g2, 12, none⟩ = some (.int .i64 y0) ∧ w'.cell? ⟨g2, 13, none⟩ = some (.int .i64 y1) ∧ w'.cell? ⟨g2, 14, none⟩ = some (.int .i64 y2) ∧ w'.cell? ⟨g2, 15, none⟩ = some (.int .i64 y3) ∧ w'.cell? ⟨g2, 16, none⟩ = some (.int .i64 y4) ∧ w'.cell? ⟨g2, 17, none⟩ = some (.int .i64 y5) ∧ w'.cell? ⟨g2, 18, none⟩ = some (.int .i64 y6) ∧ w'.cell? ⟨g2, 19, none⟩ = some (.int .i64 y7) ∧ w'.cell? ⟨g2, 20, none⟩ = some (.int .i64 y8) ∧ w'.cell? ⟨g2, 21, none⟩ = some (.int .i64 y9) ∧ w'.cell? ⟨g2, 22, none⟩ = some (.int .i64 y10) ∧ w'.cell? ⟨g2, 23, none⟩ = some (.int .i64 y11)) (ds := []) #[false, false, false, false, false, false, false, false, false, false, false, false, false, false, false, false, false, false, false, false, false, false, false, false, false, false, false, false] (by kernel_rfl) rfl rfl ⟨G2_12, G2_13, G2_14, G2_15, G2_16, G2_17, G2_18, G2_19, G2_20, G2_21, G2_22, G2_23⟩ (fun hHeld => ?_)
        refine pure_ (i := 0) (N := some 21) (v := ?_) (a' := ?_) #[true, false, false, false, false, false, false, false, false, false, false, false, false, false, false, false, false, false, false, false, false, false, false, false, false, false, false, false] rfl rfl (by kernel_rfl) (fun _ _ _ h => h) (Or.inl ⟨by rfl, ?_⟩) ?_ ?_
        rotate_left
        · intro w'
          go_simp
          with_reducible rfl
        rotate_left
        · simp only [Act.put, List.setIfInBounds_toArray, List.set_cons_zero, List.set_cons_succ, i64_w, i32_w]
          rfl
        refine pure_ (i := 1) (N := some 22) (v := ?_) (a' := ?_) #[true, true, false, false, false, false, false, false, false, false, false, false, false, false, false, false, false, false, false, false, false, false, false, false, false, false, false, false] rfl rfl (by kernel_rfl) (fun _ _ _ h => h) (Or.inl ⟨by rfl, ?_⟩) ?_ ?_
        rotate_left
        · intro w'
          go_simp
          with_reducible rfl
        rotate_left
        · simp only [Act.put, List.setIfInBounds_toArray, List.set_cons_zero, List.set_cons_succ, i64_w, i32_w]
          rfl
        refine pure_ (i := 2) (N := some 23) (v := ?_) (a' := ?_) #[true, true, true, false, false, false, false, false, false, false, false, false, false, false, false, false, false, false, false, false, false, false, false, false, false, false, false, false] rfl rfl (by kernel_rfl) (fun _ _ _ h => h) (Or.inl ⟨by rfl, ?_⟩) ?_ ?_
        rotate_left
        · intro w'
          go_simp
          with_reducible rfl
        rotate_left
        · simp only [Act.put, List.setIfInBounds_toArray, List.set_cons_zero, List.set_cons_succ, i64_w, i32_w]
          rfl
        refine pure_ (i := 4) (N := some 25) (v := ?_) (a' := ?_) #[true, true, true, false, true, false, false, false, false, false, false, false, false, false, false, false, false, false, false, false, false, false, false, false, false, false, false, false] rfl rfl (by kernel_rfl) (fun _ _ _ h => h) (Or.inl ⟨by rfl, ?_⟩) ?_ ?_
        rotate_left
        · intro w'
          go_simp
          with_reducible rfl
        rotate_left
        · simp only [Act.put, List.setIfInBounds_toArray, List.set_cons_zero, List.set_cons_succ, i64_w, i32_w]
          rfl
        refine pure_ (i := 6) (N := some 27) (v := ?_) (a' := ?_) #[true, true, true, false, true, false, true, false, false, false, false, false, false, false, false, false, false, false, false, false, false, false, false, false, false, false, false, false] rfl rfl (by kernel_rfl) (fun _ _ _ h => h) (Or.inl ⟨by rfl, ?_⟩) ?_ ?_
        rotate_left
        · intro w'
          go_simp
          with_reducible rfl
        rotate_left
        · simp only [Act.put, List.setIfInBounds_toArray, List.set_cons_zero, List.set_cons_succ, i64_w, i32_w]
          rfl
        refine pure_ (i := 7) (N := some 28) (v := ?_) (a' := ?_) #[true, true, true, false, true, false, true, true, false, false, false, false, false, false, false, false, false, false, false, false, false, false, false, false, false, false, false, false] rfl rfl (by kernel_rfl) (fun _ _ _ h => h) (Or.inl ⟨by rfl, ?_⟩) ?_ ?_
        rotate_left
        · intro w'
          go_simp
          with_reducible rfl
        rotate_left
        · simp only [Act.put, List.setIfInBounds_toArray, List.set_cons_zero, List.set_cons_succ, i64_w, i32_w]
          rfl
        refine pure_ (i := 8) (N := some 29) (v := ?_) (a' := ?_) #[true, true, true, false, true, false, true, true, true, false, false, false, false, false, false, false, false, false, false, false, false, false, false, false, false, false, false, false] rfl rfl (by kernel_rfl) (fun _ _ _ h => h) (Or.inl ⟨by rfl, ?_⟩) ?_ ?_
        rotate_left
        · intro w'
          go_simp
          with_reducible rfl
        rotate_left
        · simp only [Act.put, List.setIfInBounds_toArray, List.set_cons_zero, List.set_cons_succ, i64_w, i32_w]
          rfl
        refine pure_ (i := 10) (N := some 31) (v := ?_) (a' := ?_) #[true, true, true, false, true, false, true, true, true, false, true, false, false, false, false, false, false, false, false, false, false, false, false, false, false, false, false, false] rfl rfl (by kernel_rfl) (fun _ _ _ h => h) (Or.inl ⟨by rfl, ?_⟩) ?_ ?_
        rotate_left
        · intro w'
          go_simp
          with_reducible rfl
        rotate_left
        · simp only [Act.put, List.setIfInBounds_toArray, List.set_cons_zero, List.set_cons_succ, i64_w, i32_w]
          rfl
        refine take_ (i := 3) (N := some 24) (v := ?_) (a' := ?_) #[true, true, true, true, true, false, true, true, true, false, true, false, false, false, false, false, false, false, false, false, false, false, false, false, false, false, false, false] rfl rfl (by kernel_rfl) (fun _ _ _ h => h) (Or.inl ⟨by rfl, ?_⟩) hHeld ?_ ?_
        rotate_left
        · rintro w' ⟨s0, s1, s2, s3, s4, s5, s6, s7, s8, s9, s10, s11⟩
          go_simp
          with_reducible rfl
        rotate_left
        · simp only [Act.put, List.setIfInBounds_toArray, List.set_cons_zero, List.set_cons_succ, i64_w, i32_w]
          rfl
        refine take_ (i := 9) (N := some 30) (v := ?_) (a' := ?_) #[true, true, true, true, true, false, true, true, true, true, true, false, false, false, false, false, false, false, false, false, false, false, false, false, false, false, false, false] rfl rfl (by kernel_rfl) (fun _ _ _ h => h) (Or.inl ⟨by rfl, ?_⟩) hHeld ?_ ?_
        rotate_left
        · rintro w' ⟨s0, s1, s2, s3, s4, s5, s6, s7, s8, s9, s10, s11⟩
          go_simp
          with_reducible rfl
        rotate_left
        · simp only [Act.put, List.setIfInBounds_toArray, List.set_cons_zero, List.set_cons_succ, i64_w, i32_w]
          rfl
        refine one_ (i := 5) (N := some 26) #[true, true, true, true, true, true, true, true, true, true, true, false, false, false, false, false, false, false, false, false, false, false, false, false, false, false, false, false] rfl rfl (by kernel_rfl) (by decide) (fun K hK => ?_)
        refine goes_ Try.func18 (by kernel_rfl) rfl #[.agg #[.int .i64 y0, .int .i64 y1, .int .i64 y2, .int .i64 y3, .int .i64 y4, .int .i64 y5, .int .i64 y6, .int .i64 y7, .int .i64 y8, .int .i64 y9, .int .i64 y10, .int .i64 y11], .int .i64 sg] (by rfl) rfl rfl (by simp only [List.map_toArray, List.map_cons, List.map_nil]; rfl) ?_
        with_reducible refine (on_a y0 y1 y2 y3 y4 y5 y6 y7 y8 y9 y10 y11 sg _).mono ?_
        rw [HO.out]
        rintro e w3 ⟨rfl, hb3⟩
        have n0 := Aside0.mk (below_step (by repeat (first | (with_reducible first | exact HB.out | apply below_alloc | apply pw_below_drewN | apply below_drew1) | refine below_set ?_ (by omega))) hb3)
        clear HB
        have HB := n0
        clear n0
        have nG := Aside0.mk (IsBlk.below (by repeat (with_reducible first | exact HG2.out | apply IsBlk.alloc | apply IsBlk.drewN | apply IsBlk.drew)) hb3)
        clear HG2
        have HG2 := nG
        clear nG
        refine ⟨_, rfl, ?_⟩
        refine hK.out _ _ ⟨cell_keep hb3 hHeld.1, cell_keep hb3 hHeld.2.1, cell_keep hb3 hHeld.2.2.1, cell_keep hb3 hHeld.2.2.2.1, cell_keep hb3 hHeld.2.2.2.2.1, cell_keep hb3 hHeld.2.2.2.2.2.1, cell_keep hb3 hHeld.2.2.2.2.2.2.1, cell_keep hb3 hHeld.2.2.2.2.2.2.2.1, cell_keep hb3 hHeld.2.2.2.2.2.2.2.2.1, cell_keep hb3 hHeld.2.2.2.2.2.2.2.2.2.1, cell_keep hb3 hHeld.2.2.2.2.2.2.2.2.2.2.1, cell_keep hb3 hHeld.2.2.2.2.2.2.2.2.2.2.2⟩ (fun hHeld => ?_)
        clear hK K
        refine norm_ (a' := ?_) ?_ ?_
        rotate_left
        · show Act.put _ (some 26) _ = _
          simp only [Act.put, List.setIfInBounds_toArray, List.set_cons_zero, List.set_cons_succ, i64_w, i32_w]
          rfl
        refine one_ (i := 11) (N := some 32) #[true, true, true, true, true, true, true, true, true, true, true, true, false, false, false, false, false, false, false, false, false, false, false, false, false, false, false, false] rfl rfl (by kernel_rfl) (by decide) (fun K hK => ?_)
        refine goes_ Try.func19 (by kernel_rfl) rfl #[.agg #[.int .i64 y0, .int .i64 y1, .int .i64 y2, .int .i64 y3, .int .i64 y4, .int .i64 y5, .int .i64 y6, .int .i64 y7, .int .i64 y8, .int .i64 y9, .int .i64 y10, .int .i64 y11], .int .i64 sg] (by rfl) rfl rfl (by simp only [List.map_toArray, List.map_cons, List.map_nil]; rfl) ?_
        with_reducible refine (on_b y0 y1 y2 y3 y4 y5 y6 y7 y8 y9 y10 y11 sg _).mono ?_
        rw [HO.out]
        rintro e w4 ⟨rfl, hb4⟩
        have n0 := Aside0.mk (below_step (by repeat (first | (with_reducible first | exact HB.out | apply below_alloc | apply pw_below_drewN | apply below_drew1) | refine below_set ?_ (by omega))) hb4)
        clear HB
        have HB := n0
        clear n0
        have nG := Aside0.mk (IsBlk.below (by repeat (with_reducible first | exact HG2.out | apply IsBlk.alloc | apply IsBlk.drewN | apply IsBlk.drew)) hb4)
        clear HG2
        have HG2 := nG
        clear nG
        refine ⟨_, rfl, ?_⟩
        refine hK.out _ _ ⟨cell_keep hb4 hHeld.1, cell_keep hb4 hHeld.2.1, cell_keep hb4 hHeld.2.2.1, cell_keep hb4 hHeld.2.2.2.1, cell_keep hb4 hHeld.2.2.2.2.1, cell_keep hb4 hHeld.2.2.2.2.2.1, cell_keep hb4 hHeld.2.2.2.2.2.2.1, cell_keep hb4 hHeld.2.2.2.2.2.2.2.1, cell_keep hb4 hHeld.2.2.2.2.2.2.2.2.1, cell_keep hb4 hHeld.2.2.2.2.2.2.2.2.2.1, cell_keep hb4 hHeld.2.2.2.2.2.2.2.2.2.2.1, cell_keep hb4 hHeld.2.2.2.2.2.2.2.2.2.2.2⟩ (fun hHeld => ?_)
        clear hK K
        refine norm_ (a' := ?_) ?_ ?_
        rotate_left
        · show Act.put _ (some 32) _ = _
          simp only [Act.put, List.setIfInBounds_toArray, List.set_cons_zero, List.set_cons_succ, i64_w, i32_w]
          rfl
        refine pure_ (i := 12) (N := some 33) (v := ?_) (a' := ?_) #[true, true, true, true, true, true, true, true, true, true, true, true, true, false, false, false, false, false, false, false, false, false, false, false, false, false, false, false] rfl rfl (by kernel_rfl) (fun _ _ _ h => h) (Or.inl ⟨by rfl, ?_⟩) ?_ ?_
        rotate_left
        · intro w'
          go_simp
          with_reducible rfl
        rotate_left
        · simp only [Act.put, List.setIfInBounds_toArray, List.set_cons_zero, List.set_cons_succ, i64_w, i32_w]
          rfl
        refine pure_ (i := 13) (N := some 34) (v := ?_) (a' := ?_) #[true, true, true, true, true, true, true, true, true, true, true, true, true, true, false, false, false, false, false, false, false, false, false, false, false, false, false, false] rfl rfl (by kernel_rfl) (fun _ _ _ h => h) (Or.inl ⟨by rfl, ?_⟩) ?_ ?_
        rotate_left
        · intro w'
          go_simp
          with_reducible rfl
        rotate_left
        · simp only [Act.put, List.setIfInBounds_toArray, List.set_cons_zero, List.set_cons_succ, i64_w, i32_w]
          rfl
        refine pure_ (i := 14) (N := some 35) (v := ?_) (a' := ?_) #[true, true, true, true, true, true, true, true, true, true, true, true, true, true, true, false, false, false, false, false, false, false, false, false, false, false, false, false] rfl rfl (by kernel_rfl) (fun _ _ _ h => h) (Or.inl ⟨by rfl, ?_⟩) ?_ ?_
        rotate_left
        · intro w'
          go_simp
          with_reducible rfl
        rotate_left
        · simp only [Act.put, List.setIfInBounds_toArray, List.set_cons_zero, List.set_cons_succ, i64_w, i32_w]
          rfl
        refine pure_ (i := 15) (N := some 36) (v := ?_) (a' := ?_) #[true, true, true, true, true, true, true, true, true, true, true, true, true, true, true, true, false, false, false, false, false, false, false, false, false, false, false, false] rfl rfl (by kernel_rfl) (fun _ _ _ h => h) (Or.inl ⟨by rfl, ?_⟩) ?_ ?_
        rotate_left
        · intro w'
          go_simp
          with_reducible rfl
        rotate_left
        · simp only [Act.put, List.setIfInBounds_toArray, List.set_cons_zero, List.set_cons_succ, i64_w, i32_w]
          rfl
        refine pure_ (i := 16) (N := some 37) (v := ?_) (a' := ?_) #[true, true, true, true, true, true, true, true, true, true, true, true, true, true, true, true, true, false, false, false, false, false, false, false, false, false, false, false] rfl rfl (by kernel_rfl) (fun _ _ _ h => h) (Or.inl ⟨by rfl, ?_⟩) ?_ ?_
        rotate_left
        · intro w'
          go_simp
          with_reducible rfl
        rotate_left
        · simp only [Act.put, List.setIfInBounds_toArray, List.set_cons_zero, List.set_cons_succ, i64_w, i32_w]
          rfl
        refine pure_ (i := 18) (N := some 39) (v := ?_) (a' := ?_) #[true, true, true, true, true, true, true, true, true, true, true, true, true, true, true, true, true, false, true, false, false, false, false, false, false, false, false, false] rfl rfl (by kernel_rfl) (fun _ _ _ h => h) (Or.inl ⟨by rfl, ?_⟩) ?_ ?_
        rotate_left
        · intro w'
          go_simp
          with_reducible rfl
        rotate_left
        · simp only [Act.put, List.setIfInBounds_toArray, List.set_cons_zero, List.set_cons_succ, i64_w, i32_w]
          rfl
        refine pure_ (i := 20) (N := some 41) (v := ?_) (a' := ?_) #[true, true, true, true, true, true, true, true, true, true, true, true, true, true, true, true, true, false, true, false, true, false, false, false, false, false, false, false] rfl rfl (by kernel_rfl) (fun _ _ _ h => h) (Or.inl ⟨by rfl, ?_⟩) ?_ ?_
        rotate_left
        · intro w'
          go_simp
          with_reducible rfl
        rotate_left
        · simp only [Act.put, List.setIfInBounds_toArray, List.set_cons_zero, List.set_cons_succ, i64_w, i32_w]
          rfl
        refine pure_ (i := 21) (N := some 42) (v := ?_) (a' := ?_) #[true, true, true, true, true, true, true, true, true, true, true, true, true, true, true, true, true, false, true, false, true, true, false, false, false, false, false, false] rfl rfl (by kernel_rfl) (fun _ _ _ h => h) (Or.inl ⟨by rfl, ?_⟩) ?_ ?_
        rotate_left
        · intro w'
          go_simp
          with_reducible rfl
        rotate_left
        · simp only [Act.put, List.setIfInBounds_toArray, List.set_cons_zero, List.set_cons_succ, i64_w, i32_w]
          rfl
        refine pure_ (i := 22) (N := some 43) (v := ?_) (a' := ?_) #[true, true, true, true, true, true, true, true, true, true, true, true, true, true, true, true, true, false, true, false, true, true, true, false, false, false, false, false] rfl rfl (by kernel_rfl) (fun _ _ _ h => h) (Or.inl ⟨by rfl, ?_⟩) ?_ ?_
        rotate_left
        · intro w'
          go_simp
          with_reducible rfl
        rotate_left
        · simp only [Act.put, List.setIfInBounds_toArray, List.set_cons_zero, List.set_cons_succ, i64_w, i32_w]
          rfl
        refine pure_ (i := 24) (N := some 45) (v := ?_) (a' := ?_) #[true, true, true, true, true, true, true, true, true, true, true, true, true, true, true, true, true, false, true, false, true, true, true, false, true, false, false, false] rfl rfl (by kernel_rfl) (fun _ _ _ h => h) (Or.inl ⟨by rfl, ?_⟩) ?_ ?_
        rotate_left
        · intro w'
          go_simp
          with_reducible rfl
        rotate_left
        · simp only [Act.put, List.setIfInBounds_toArray, List.set_cons_zero, List.set_cons_succ, i64_w, i32_w]
          rfl
        refine take_ (i := 17) (N := some 38) (v := ?_) (a' := ?_) #[true, true, true, true, true, true, true, true, true, true, true, true, true, true, true, true, true, true, true, false, true, true, true, false, true, false, false, false] rfl rfl (by kernel_rfl) (fun _ _ _ h => h) (Or.inl ⟨by rfl, ?_⟩) hHeld ?_ ?_
        rotate_left
        · rintro w' ⟨s0, s1, s2, s3, s4, s5, s6, s7, s8, s9, s10, s11⟩
          go_simp
          with_reducible rfl
        rotate_left
        · simp only [Act.put, List.setIfInBounds_toArray, List.set_cons_zero, List.set_cons_succ, i64_w, i32_w]
          rfl
        refine take_ (i := 23) (N := some 44) (v := ?_) (a' := ?_) #[true, true, true, true, true, true, true, true, true, true, true, true, true, true, true, true, true, true, true, false, true, true, true, true, true, false, false, false] rfl rfl (by kernel_rfl) (fun _ _ _ h => h) (Or.inl ⟨by rfl, ?_⟩) hHeld ?_ ?_
        rotate_left
        · rintro w' ⟨s0, s1, s2, s3, s4, s5, s6, s7, s8, s9, s10, s11⟩
          go_simp
          with_reducible rfl
        rotate_left
        · simp only [Act.put, List.setIfInBounds_toArray, List.set_cons_zero, List.set_cons_succ, i64_w, i32_w]
          rfl
        refine one_ (i := 19) (N := some 40) #[true, true, true, true, true, true, true, true, true, true, true, true, true, true, true, true, true, true, true, true, true, true, true, true, true, false, false, false] rfl rfl (by kernel_rfl) (by decide) (fun K hK => ?_)
        refine goes_ Try.func20 (by kernel_rfl) rfl #[.agg #[.int .i64 y0, .int .i64 y1, .int .i64 y2, .int .i64 y3, .int .i64 y4, .int .i64 y5, .int .i64 y6, .int .i64 y7, .int .i64 y8, .int .i64 y9, .int .i64 y10, .int .i64 y11], .int .i64 fr] (by rfl) rfl rfl (by simp only [List.map_toArray, List.map_cons, List.map_nil]; rfl) ?_
        with_reducible refine (back_a y0 y1 y2 y3 y4 y5 y6 y7 y8 y9 y10 y11 fr _).mono ?_
        rw [HK.out]
        rintro e w5 ⟨rfl, hb5⟩
        have n0 := Aside0.mk (below_step (by repeat (first | (with_reducible first | exact HB.out | apply below_alloc | apply pw_below_drewN | apply below_drew1) | refine below_set ?_ (by omega))) hb5)
        clear HB
        have HB := n0
        clear n0
        have nG := Aside0.mk (IsBlk.below (by repeat (with_reducible first | exact HG2.out | apply IsBlk.alloc | apply IsBlk.drewN | apply IsBlk.drew)) hb5)
        clear HG2
        have HG2 := nG
        clear nG
        refine ⟨_, rfl, ?_⟩
        refine hK.out _ _ ⟨cell_keep hb5 hHeld.1, cell_keep hb5 hHeld.2.1, cell_keep hb5 hHeld.2.2.1, cell_keep hb5 hHeld.2.2.2.1, cell_keep hb5 hHeld.2.2.2.2.1, cell_keep hb5 hHeld.2.2.2.2.2.1, cell_keep hb5 hHeld.2.2.2.2.2.2.1, cell_keep hb5 hHeld.2.2.2.2.2.2.2.1, cell_keep hb5 hHeld.2.2.2.2.2.2.2.2.1, cell_keep hb5 hHeld.2.2.2.2.2.2.2.2.2.1, cell_keep hb5 hHeld.2.2.2.2.2.2.2.2.2.2.1, cell_keep hb5 hHeld.2.2.2.2.2.2.2.2.2.2.2⟩ (fun hHeld => ?_)
        clear hK K
        refine norm_ (a' := ?_) ?_ ?_
        rotate_left
        · show Act.put _ (some 40) _ = _
          simp only [Act.put, List.setIfInBounds_toArray, List.set_cons_zero, List.set_cons_succ, i64_w, i32_w]
          rfl
        refine one_ (i := 25) (N := some 46) #[true, true, true, true, true, true, true, true, true, true, true, true, true, true, true, true, true, true, true, true, true, true, true, true, true, true, false, false] rfl rfl (by kernel_rfl) (by decide) (fun K hK => ?_)
        refine goes_ Try.func21 (by kernel_rfl) rfl #[.agg #[.int .i64 y0, .int .i64 y1, .int .i64 y2, .int .i64 y3, .int .i64 y4, .int .i64 y5, .int .i64 y6, .int .i64 y7, .int .i64 y8, .int .i64 y9, .int .i64 y10, .int .i64 y11], .int .i64 fr] (by rfl) rfl rfl (by simp only [List.map_toArray, List.map_cons, List.map_nil]; rfl) ?_
        with_reducible refine (back_b y0 y1 y2 y3 y4 y5 y6 y7 y8 y9 y10 y11 fr _).mono ?_
        rw [HK.out]
        rintro e w6 ⟨rfl, hb6⟩
        have n0 := Aside0.mk (below_step (by repeat (first | (with_reducible first | exact HB.out | apply below_alloc | apply pw_below_drewN | apply below_drew1) | refine below_set ?_ (by omega))) hb6)
        clear HB
        have HB := n0
        clear n0
        have nG := Aside0.mk (IsBlk.below (by repeat (with_reducible first | exact HG2.out | apply IsBlk.alloc | apply IsBlk.drewN | apply IsBlk.drew)) hb6)
        clear HG2
        have HG2 := nG
        clear nG
        refine ⟨_, rfl, ?_⟩
        refine hK.out _ _ ⟨cell_keep hb6 hHeld.1, cell_keep hb6 hHeld.2.1, cell_keep hb6 hHeld.2.2.1, cell_keep hb6 hHeld.2.2.2.1, cell_keep hb6 hHeld.2.2.2.2.1, cell_keep hb6 hHeld.2.2.2.2.2.1, cell_keep hb6 hHeld.2.2.2.2.2.2.1, cell_keep hb6 hHeld.2.2.2.2.2.2.2.1, cell_keep hb6 hHeld.2.2.2.2.2.2.2.2.1, cell_keep hb6 hHeld.2.2.2.2.2.2.2.2.2.1, cell_keep hb6 hHeld.2.2.2.2.2.2.2.2.2.2.1, cell_keep hb6 hHeld.2.2.2.2.2.2.2.2.2.2.2⟩ (fun hHeld => ?_)
        clear hK K
        refine norm_ (a' := ?_) ?_ ?_
        rotate_left
        · show Act.put _ (some 46) _ = _
          simp only [Act.put, List.setIfInBounds_toArray, List.set_cons_zero, List.set_cons_succ, i64_w, i32_w]
          rfl
        refine pure_ (i := 26) (N := some 47) (v := ?_) (a' := ?_) #[true, true, true, true, true, true, true, true, true, true, true, true, true, true, true, true, true, true, true, true, true, true, true, true, true, true, true, false] rfl rfl (by kernel_rfl) (fun _ _ _ h => h) (Or.inl ⟨by rfl, ?_⟩) ?_ ?_
        rotate_left
        · intro w'
          go_simp
          with_reducible rfl
        rotate_left
        · simp only [Act.put, List.setIfInBounds_toArray, List.set_cons_zero, List.set_cons_succ, i64_w, i32_w]
          rfl
        refine pure_ (i := 27) (N := some 48) (v := ?_) (a' := ?_) #[true, true, true, true, true, true, true, true, true, true, true, true, true, true, true, true, true, true, true, true, true, true, true, true, true, true, true, true] rfl rfl (by kernel_rfl) (fun _ _ _ h => h) (Or.inl ⟨by rfl, ?_⟩) ?_ ?_
        rotate_left
        · intro w'
          go_simp
          with_reducible rfl
        rotate_left
        · simp only [Act.put, List.setIfInBounds_toArray, List.set_cons_zero, List.set_cons_succ, i64_w, i32_w]
          rfl
        refine done_ (by kernel_rfl) ?_
        go_wp2
        go_roundw
        case rel => exact ⟨2, by first | rfl | go_num | (simp; done), by omega, by omega, HG2, HB⟩
        case measure => simp [intOf]
end Go.Proofs.Ytfnpepfabbgpfaa.WalkBatchGoals
