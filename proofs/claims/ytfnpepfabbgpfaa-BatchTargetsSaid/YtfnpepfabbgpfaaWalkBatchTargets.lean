/-
  Proved here: what pacesetterlaw18.BatchTargets returns, whatever the input: true. No condition.
-/
import Derived.Test.YtfnpepfabbgpfaaR4
import Derived.Test.YtfnpepfabbgpfaaB3
namespace Go.Proofs.Ytfnpepfabbgpfaa.WalkBatchTargets
open Go.RowKit Go.Sort Go.Proofs.Ytfnpepfabbgpfaa.B0 Go.Proofs.Ytfnpepfabbgpfaa.B1 Go.Proofs.Ytfnpepfabbgpfaa.B1z Go.Proofs.Ytfnpepfabbgpfaa.B2 Go.Proofs.Ytfnpepfabbgpfaa.B3 Go.Proofs.Ytfnpepfabbgpfaa.B4 Go.Proofs.Ytfnpepfabbgpfaa.B7 Go.Proofs.Ytfnpepfabbgpfaa.R1 Go.Proofs.Ytfnpepfabbgpfaa.R2 Go.Proofs.Ytfnpepfabbgpfaa.R3 Go.Proofs.Ytfnpepfabbgpfaa.R4 Go.Proofs.YtfnpepfabbgpfaaW.PrintWords Go.Proofs.YtfnpepfabbgpfaaW.PrintLast Go.Proofs.YtfnpepfabbgpfaaW.PrintMore
set_option linter.unusedVariables false
set_option linter.unusedSimpArgs false
attribute [local go_sem] max2_int min2_int max_two min_two

theorem same_at : ∀ (n : Nat) (l : List Int) (i : Int), l.length ≤ 5 → 0 ≤ i → i + n = l.length → PBatchGoals.pacesetterref01_Same.l0 (n + 1) l l i = some true := by
  intro n
  induction n with
  | zero =>
    intro l i h5 h0 hi
    unfold PBatchGoals.pacesetterref01_Same.l0
    rw [if_neg (by omega)]
  | succ n ih =>
    intro l i h5 h0 hi
    unfold PBatchGoals.pacesetterref01_Same.l0
    rw [if_pos (by omega), if_pos h0, if_pos (by omega), if_pos rfl]
    have e : wrap64 (i + 1) = i + 1 := by unfold wrap64; omega
    rw [e]
    exact ih l (i + 1) h5 (by omega) (by omega)
theorem same_self (l : List Int) (h5 : l.length ≤ 5) : ∃ k, PBatchGoals.pacesetterref01_Same.f k l l = some true := by
  refine ⟨l.length + 1, ?_⟩
  unfold PBatchGoals.pacesetterref01_Same.f
  rw [if_pos rfl]
  exact same_at l.length l 0 h5 (by omega) (by omega)
theorem share_upto (v d s u st s0 s1 s2 s3 p q r i : Int) : (shareL v d s u st s0 s1 s2 s3 p q r i).length ≤ 5 := by
  unfold shareL
  have h := targets_upto v d s u st s0 s1 s2 s3 p q r
  split
  · simp
  · rw [dif_len, List.length_take]
    omega

set_option maxRecDepth 100000 in
set_option maxHeartbeats 8000000 in
theorem walk (v d s u st s0 s1 s2 s3 p q r sg : Int) (w : World) (_ : (Lit.int .i64 sg).wf = true) : Calls Try.prog 4 #[.agg #[.int .i64 v, .int .i64 d, .int .i64 s, .int .i64 u, .int .i64 st, .int .i64 s0, .int .i64 s1, .int .i64 s2, .int .i64 s3, .int .i64 p, .int .i64 q, .int .i64 r], .int .i64 sg] w fun e w' => e = .returned (.bool true) ∧ Below w.heap.size w w' := by
  have HB := Aside0.mk (Below.refl w.heap.size w)
  go_enter Try.func4, Try.ntmps4
  go_wp2_with fail
  refine (B4.lives_q _).mono ?_
  rintro e w1 ⟨rfl, hb1⟩
  have D : IsBlk w1 (w.heap.size) #[.int .i64 v, .int .i64 d, .int .i64 s, .int .i64 u, .int .i64 st, .int .i64 s0, .int .i64 s1, .int .i64 s2, .int .i64 s3, .int .i64 p, .int .i64 q, .int .i64 r] 24 := IsBlk.below (by repeat (first | ((refine IsBlk.new _ _ ?_); (simp; done)) | apply IsBlk.alloc | apply IsBlk.drewN)) hb1
  have D_0 := blk_cell D 0
  have D_1 := blk_cell D 1
  have D_2 := blk_cell D 2
  have D_3 := blk_cell D 3
  have D_4 := blk_cell D 4
  have D_5 := blk_cell D 5
  have D_6 := blk_cell D 6
  have D_7 := blk_cell D 7
  have D_8 := blk_cell D 8
  have D_9 := blk_cell D 9
  have D_10 := blk_cell D 10
  have D_11 := blk_cell D 11
  simp only [List.getElem?_toArray, List.getElem?_cons_zero, List.getElem?_cons_succ] at D_0 D_1 D_2 D_3 D_4 D_5 D_6 D_7 D_8 D_9 D_10 D_11
  have D_l := blk_lt D
  have HD := Aside0.mk D
  clear D
  have n0 := Aside0.mk (below_step (by repeat (first | (with_reducible first | exact HB.out | apply below_alloc | apply pw_below_drewN | apply below_drew1) | refine below_set ?_ (by omega))) hb1)
  clear HB hb1
  have HB := n0
  clear n0
  go_wp2_with fail
  refine (good_q v d s u st s0 s1 s2 s3 p q r _).mono ?_
  rintro e w2 ⟨y0, y1, y2, y3, y4, y5, y6, y7, y8, y9, y10, y11, rfl, hM, hb1⟩
  clear hM
  have D' := IsBlk.below (by repeat (with_reducible first | exact HD.out | apply IsBlk.alloc | apply IsBlk.drewN | apply IsBlk.drew)) hb1
  clear D_0 D_1 D_2 D_3 D_4 D_5 D_6 D_7 D_8 D_9 D_10 D_11 D_l HD
  have D := D'
  clear D'
  have D_0 := blk_cell D 0
  have D_1 := blk_cell D 1
  have D_2 := blk_cell D 2
  have D_3 := blk_cell D 3
  have D_4 := blk_cell D 4
  have D_5 := blk_cell D 5
  have D_6 := blk_cell D 6
  have D_7 := blk_cell D 7
  have D_8 := blk_cell D 8
  have D_9 := blk_cell D 9
  have D_10 := blk_cell D 10
  have D_11 := blk_cell D 11
  simp only [List.getElem?_toArray, List.getElem?_cons_zero, List.getElem?_cons_succ] at D_0 D_1 D_2 D_3 D_4 D_5 D_6 D_7 D_8 D_9 D_10 D_11
  have D_l := blk_lt D
  have HD := Aside0.mk D
  clear D
  have n0 := Aside0.mk (below_step (by repeat (first | (with_reducible first | exact HB.out | apply below_alloc | apply pw_below_drewN | apply below_drew1) | refine below_set ?_ (by omega))) hb1)
  clear HB hb1
  have HB := n0
  clear n0
  go_wp2_with fail
  have hG2 : ∃ g2, IsBlk (((w2.alloc (.cells #[.int .i64 y0, .int .i64 y1, .int .i64 y2, .int .i64 y3, .int .i64 y4, .int .i64 y5, .int .i64 y6, .int .i64 y7, .int .i64 y8, .int .i64 y9, .int .i64 y10, .int .i64 y11] 24)).alloc (.cells #[.int .i64 v, .int .i64 d, .int .i64 s, .int .i64 u, .int .i64 st, .int .i64 s0, .int .i64 s1, .int .i64 s2, .int .i64 s3, .int .i64 p, .int .i64 q, .int .i64 r, .int .i64 y0, .int .i64 y1, .int .i64 y2, .int .i64 y3, .int .i64 y4, .int .i64 y5, .int .i64 y6, .int .i64 y7, .int .i64 y8, .int .i64 y9, .int .i64 y10, .int .i64 y11] 24))) g2 #[.int .i64 v, .int .i64 d, .int .i64 s, .int .i64 u, .int .i64 st, .int .i64 s0, .int .i64 s1, .int .i64 s2, .int .i64 s3, .int .i64 p, .int .i64 q, .int .i64 r, .int .i64 y0, .int .i64 y1, .int .i64 y2, .int .i64 y3, .int .i64 y4, .int .i64 y5, .int .i64 y6, .int .i64 y7, .int .i64 y8, .int .i64 y9, .int .i64 y10, .int .i64 y11] 24 ∧ g2 = w2.heap.size + 1 := ⟨_, IsBlk.new _ _ (by simp), rfl⟩
  obtain ⟨g2, hG2, hg2⟩ := hG2
  rw [← hg2]
  have hgb : w.heap.size ≤ g2 := by have := below_size (by repeat (first | (with_reducible first | exact HB.out | apply below_alloc | apply pw_below_drewN | apply below_drew1) | refine below_set ?_ (by omega))); omega
  clear hg2
  go_loopw [7] (fun v7 wr => ∃ k : Int, v7 = .int .i64 k ∧ 0 ≤ k ∧ k ≤ 2 ∧ Aside0 (IsBlk wr g2 #[.int .i64 v, .int .i64 d, .int .i64 s, .int .i64 u, .int .i64 st, .int .i64 s0, .int .i64 s1, .int .i64 s2, .int .i64 s3, .int .i64 p, .int .i64 q, .int .i64 r, .int .i64 y0, .int .i64 y1, .int .i64 y2, .int .i64 y3, .int .i64 y4, .int .i64 y5, .int .i64 y6, .int .i64 y7, .int .i64 y8, .int .i64 y9, .int .i64 y10, .int .i64 y11] 24) ∧ Aside0 (Below w.heap.size w wr)) (fun v7 _ => 2 - (intOf v7).toNat)
  case atStart => exact ⟨0, rfl, by omega, by omega, ⟨hG2⟩, ⟨by repeat (first | (with_reducible first | exact HB.out | apply below_alloc | apply pw_below_drewN | apply below_drew1) | refine below_set ?_ (by omega))⟩⟩
  case round =>
    clear D_0 D_1 D_2 D_3 D_4 D_5 D_6 D_7 D_8 D_9 D_10 D_11 D_l HD
    clear HB hG2
    obtain ⟨k, rfl, hk0, hk2, HG2, HB⟩ := hrel
    obtain ⟨wq, hwq⟩ : ∃ x, x = wr := ⟨_, rfl⟩
    subst hwq
    by_cases hk : k = 2
    · subst hk
      go_wp2
      go_ret
      exact ⟨rfl, HB.out⟩
    · have hkl : k < 2 := by omega
      have hkd : decide (k < 2) = true := by simpa using hkl
      clear hk
      go_upto_region 8 with fail
      go_cut [8] (fun v8 wc => ∃ (g : Nat) (x0 x1 x2 x3 x4 x5 x6 x7 x8 x9 x10 x11 : Int), v8 = .pointer (some ⟨g, 0, none⟩) ∧ Aside0 (IsBlk wc g #[.int .i64 x0, .int .i64 x1, .int .i64 x2, .int .i64 x3, .int .i64 x4, .int .i64 x5, .int .i64 x6, .int .i64 x7, .int .i64 x8, .int .i64 x9, .int .i64 x10, .int .i64 x11] 24) ∧ Aside0 (IsBlk wc g2 #[.int .i64 v, .int .i64 d, .int .i64 s, .int .i64 u, .int .i64 st, .int .i64 s0, .int .i64 s1, .int .i64 s2, .int .i64 s3, .int .i64 p, .int .i64 q, .int .i64 r, .int .i64 y0, .int .i64 y1, .int .i64 y2, .int .i64 y3, .int .i64 y4, .int .i64 y5, .int .i64 y6, .int .i64 y7, .int .i64 y8, .int .i64 y9, .int .i64 y10, .int .i64 y11] 24) ∧ Aside0 (Below w.heap.size w wc))
      case first =>
        have G2 := HG2.out
        have G2_0 := blk_cell G2 0
        have G2_1 := blk_cell G2 1
        have G2_2 := blk_cell G2 2
        have G2_3 := blk_cell G2 3
        have G2_4 := blk_cell G2 4
        have G2_5 := blk_cell G2 5
        have G2_6 := blk_cell G2 6
        have G2_7 := blk_cell G2 7
        have G2_8 := blk_cell G2 8
        have G2_9 := blk_cell G2 9
        have G2_10 := blk_cell G2 10
        have G2_11 := blk_cell G2 11
        have G2_12 := blk_cell G2 12
        have G2_13 := blk_cell G2 13
        have G2_14 := blk_cell G2 14
        have G2_15 := blk_cell G2 15
        have G2_16 := blk_cell G2 16
        have G2_17 := blk_cell G2 17
        have G2_18 := blk_cell G2 18
        have G2_19 := blk_cell G2 19
        have G2_20 := blk_cell G2 20
        have G2_21 := blk_cell G2 21
        have G2_22 := blk_cell G2 22
        have G2_23 := blk_cell G2 23
        simp only [List.getElem?_toArray, List.getElem?_cons_zero, List.getElem?_cons_succ] at G2_0 G2_1 G2_2 G2_3 G2_4 G2_5 G2_6 G2_7 G2_8 G2_9 G2_10 G2_11 G2_12 G2_13 G2_14 G2_15 G2_16 G2_17 G2_18 G2_19 G2_20 G2_21 G2_22 G2_23
        have G2_l := blk_lt G2
        have HG3 := Aside0.mk G2
        clear G2
        rcases (by omega : k = 0 ∨ k = 1) with rfl | rfl
        · clear hk0 hk2 hkl hkd
          go_wp2_with fail
          go_meet
          exact ⟨_, _, _, _, _, _, _, _, _, _, _, _, _, rfl, ⟨IsBlk.new _ _ rfl⟩, ⟨HG2.out.alloc _⟩, ⟨by repeat (first | (with_reducible first | exact HB.out | apply below_alloc | apply pw_below_drewN | apply below_drew1) | refine below_set ?_ (by omega))⟩⟩
        · clear hk0 hk2 hkl hkd
          go_wp2_with fail
          go_meet
          exact ⟨_, _, _, _, _, _, _, _, _, _, _, _, _, rfl, ⟨IsBlk.new _ _ rfl⟩, ⟨HG2.out.alloc _⟩, ⟨by repeat (first | (with_reducible first | exact HB.out | apply below_alloc | apply pw_below_drewN | apply below_drew1) | refine below_set ?_ (by omega))⟩⟩
      case rest =>
        clear HG2 HB
        obtain ⟨g, x0, x1, x2, x3, x4, x5, x6, x7, x8, x9, x10, x11, rfl, HX, HG2, HB⟩ := hcut
        have X := HX.out
        clear HX
        have X_0 := blk_cell X 0
        have X_1 := blk_cell X 1
        have X_2 := blk_cell X 2
        have X_3 := blk_cell X 3
        have X_4 := blk_cell X 4
        have X_5 := blk_cell X 5
        have X_6 := blk_cell X 6
        have X_7 := blk_cell X 7
        have X_8 := blk_cell X 8
        have X_9 := blk_cell X 9
        have X_10 := blk_cell X 10
        have X_11 := blk_cell X 11
        simp only [List.getElem?_toArray, List.getElem?_cons_zero, List.getElem?_cons_succ] at X_0 X_1 X_2 X_3 X_4 X_5 X_6 X_7 X_8 X_9 X_10 X_11
        have X_l := blk_lt X
        have HX := Aside0.mk X
        clear X
        obtain ⟨l, hl⟩ : ∃ l, targetsL x0 x1 x2 x3 x4 x5 x6 x7 x8 x9 x10 x11 = l := ⟨_, rfl⟩
        obtain ⟨t, ht⟩ : ∃ t, targetV x0 x1 x2 x3 x4 x5 x6 x7 x8 x9 x10 x11 sg = t := ⟨_, rfl⟩
        obtain ⟨m, hm⟩ : ∃ m, shareL x0 x1 x2 x3 x4 x5 x6 x7 x8 x9 x10 x11 sg = m := ⟨_, rfl⟩
        have h5 := targets_upto x0 x1 x2 x3 x4 x5 x6 x7 x8 x9 x10 x11
        have h6 := share_upto x0 x1 x2 x3 x4 x5 x6 x7 x8 x9 x10 x11 sg
        rw [hl] at h5
        rw [hm] at h6
        obtain ⟨K1, hK1⟩ := same_self l h5
        obtain ⟨K2, hK2⟩ := same_self m h6
        have HL := Aside0.mk hl
        have HT := Aside0.mk ht
        have HH := Aside0.mk hm
        have HK := Aside0.mk hK1
        have HK2 := Aside0.mk hK2
        clear hl ht hm hK1 hK2
        go_upto_region 9 with fail
        refine start_ (n := 33) (S := fun w' => w'.cell? ⟨g, 0, none⟩ = some (.int .i64 x0) ∧ w'.cell? ⟨g, 1, none⟩ = some (.int .i64 x1) ∧ w'.cell? ⟨g, 2, none⟩ = some (.int .i64 x2) ∧ w'.cell? ⟨g, 3, none⟩ = some (.int .i64 x3) ∧ w'.cell? ⟨g, 4, none⟩ = some (.int .i64 x4) ∧ w'.cell? ⟨g, 5, none⟩ = some (.int .i64 x5) ∧ w'.cell? ⟨g, 6, none⟩ = some (.int .i64 x6) ∧ w'.cell? ⟨g, 7, none⟩ = some (.int .i64 x7) ∧ w'.cell? ⟨g, 8, none⟩ = some (.int .i64 x8) ∧ w'.cell? ⟨g, 9, none⟩ = some (.int .i64 x9) ∧ w'.cell? ⟨g, 10, none⟩ = some (.int .i64 x10) ∧ w'.cell? ⟨g, 11, none⟩ = some (.int .i64 x11)) (ds := []) #[false, false, false, false, false, false, false, false, false, false, false, false, false, false, false, false, false, false, false, false, false, false, false, false, false, false, false, false, false, false, false, false, false] (by kernel_rfl) rfl rfl ⟨X_0, X_1, X_2, X_3, X_4, X_5, X_6, X_7, X_8, X_9, X_10, X_11⟩ (fun hHeld => ?_)
        refine take_ (i := 0) (N := some 24) (v := ?_) (a' := ?_) #[true, false, false, false, false, false, false, false, false, false, false, false, false, false, false, false, false, false, false, false, false, false, false, false, false, false, false, false, false, false, false, false, false] rfl rfl (by kernel_rfl) (fun _ _ _ h => h) (Or.inl ⟨by rfl, ?_⟩) hHeld ?_ ?_
        rotate_left
        · rintro w' ⟨s0, s1, s2, s3, s4, s5, s6, s7, s8, s9, s10, s11⟩
          go_simp
          with_reducible rfl
        rotate_left
        · simp only [Act.put, List.setIfInBounds_toArray, List.set_cons_zero, List.set_cons_succ, i64_w, i32_w]
          rfl
        refine take_ (i := 2) (N := some 26) (v := ?_) (a' := ?_) #[true, false, true, false, false, false, false, false, false, false, false, false, false, false, false, false, false, false, false, false, false, false, false, false, false, false, false, false, false, false, false, false, false] rfl rfl (by kernel_rfl) (fun _ _ _ h => h) (Or.inl ⟨by rfl, ?_⟩) hHeld ?_ ?_
        rotate_left
        · rintro w' ⟨s0, s1, s2, s3, s4, s5, s6, s7, s8, s9, s10, s11⟩
          go_simp
          with_reducible rfl
        rotate_left
        · simp only [Act.put, List.setIfInBounds_toArray, List.set_cons_zero, List.set_cons_succ, i64_w, i32_w]
          rfl
        refine one_ (i := 1) (N := some 25) #[true, true, true, false, false, false, false, false, false, false, false, false, false, false, false, false, false, false, false, false, false, false, false, false, false, false, false, false, false, false, false, false, false] rfl rfl (by kernel_rfl) (by decide) (fun K hK => ?_)
        refine goes_ Try.func10 (by kernel_rfl) rfl #[.agg #[.int .i64 x0, .int .i64 x1, .int .i64 x2, .int .i64 x3, .int .i64 x4, .int .i64 x5, .int .i64 x6, .int .i64 x7, .int .i64 x8, .int .i64 x9, .int .i64 x10, .int .i64 x11]] (by rfl) rfl rfl (by simp only [List.map_toArray, List.map_cons, List.map_nil]; rfl) ?_
        with_reducible refine (targets_q x0 x1 x2 x3 x4 x5 x6 x7 x8 x9 x10 x11 _).mono ?_
        rw [HL.out]
        rintro e w3 ⟨vv1, rfl, hR1, hb3⟩
        obtain ⟨A1, c1, rfl, hlc1, hC1⟩ := Kd.R_reads hR1
        have HC1 := Aside0.mk hC1
        have Hlc1 := Aside0.mk hlc1
        clear hR1 hC1 hlc1
        have n0 := Aside0.mk (below_step (by repeat (first | (with_reducible first | exact HB.out | apply below_alloc | apply pw_below_drewN | apply below_drew1) | refine below_set ?_ (by omega))) hb3)
        clear HB
        have HB := n0
        clear n0
        have nG := Aside0.mk (IsBlk.below (by repeat (with_reducible first | exact HG2.out | apply IsBlk.alloc | apply IsBlk.drewN | apply IsBlk.drew)) hb3)
        clear HG2
        have HG2 := nG
        clear nG
        refine ⟨_, rfl, ?_⟩
        refine hK.out _ _ ⟨cell_keep hb3 hHeld.1, cell_keep hb3 hHeld.2.1, cell_keep hb3 hHeld.2.2.1, cell_keep hb3 hHeld.2.2.2.1, cell_keep hb3 hHeld.2.2.2.2.1, cell_keep hb3 hHeld.2.2.2.2.2.1, cell_keep hb3 hHeld.2.2.2.2.2.2.1, cell_keep hb3 hHeld.2.2.2.2.2.2.2.1, cell_keep hb3 hHeld.2.2.2.2.2.2.2.2.1, cell_keep hb3 hHeld.2.2.2.2.2.2.2.2.2.1, cell_keep hb3 hHeld.2.2.2.2.2.2.2.2.2.2.1, cell_keep hb3 hHeld.2.2.2.2.2.2.2.2.2.2.2⟩ (fun hHeld => ?_)
        clear hK K
        refine norm_ (a' := ?_) ?_ ?_
        rotate_left
        · show Act.put _ (some 25) _ = _
          simp only [Act.put, List.setIfInBounds_toArray, List.set_cons_zero, List.set_cons_succ, i64_w, i32_w]
          rfl
        refine one_ (i := 3) (N := some 27) #[true, true, true, true, false, false, false, false, false, false, false, false, false, false, false, false, false, false, false, false, false, false, false, false, false, false, false, false, false, false, false, false, false] rfl rfl (by kernel_rfl) (by decide) (fun K hK => ?_)
        refine goes_ Try.func12 (by kernel_rfl) rfl #[.agg #[.int .i64 x0, .int .i64 x1, .int .i64 x2, .int .i64 x3, .int .i64 x4, .int .i64 x5, .int .i64 x6, .int .i64 x7, .int .i64 x8, .int .i64 x9, .int .i64 x10, .int .i64 x11]] (by rfl) rfl rfl (by simp only [List.map_toArray, List.map_cons, List.map_nil]; rfl) ?_
        with_reducible refine (targets_r x0 x1 x2 x3 x4 x5 x6 x7 x8 x9 x10 x11 _).mono ?_
        rw [HL.out]
        rintro e w4 ⟨vv2, rfl, hR2, hb4⟩
        obtain ⟨A2, c2, rfl, hlc2, hC2⟩ := Kd.R_reads hR2
        have HC2 := Aside0.mk hC2
        have Hlc2 := Aside0.mk hlc2
        clear hR2 hC2 hlc2
        have nC := Aside0.mk (Kd.C_below HC1.out hb4)
        clear HC1
        have HC1 := nC
        clear nC
        have n0 := Aside0.mk (below_step (by repeat (first | (with_reducible first | exact HB.out | apply below_alloc | apply pw_below_drewN | apply below_drew1) | refine below_set ?_ (by omega))) hb4)
        clear HB
        have HB := n0
        clear n0
        have nG := Aside0.mk (IsBlk.below (by repeat (with_reducible first | exact HG2.out | apply IsBlk.alloc | apply IsBlk.drewN | apply IsBlk.drew)) hb4)
        clear HG2
        have HG2 := nG
        clear nG
        refine ⟨_, rfl, ?_⟩
        refine hK.out _ _ ⟨cell_keep hb4 hHeld.1, cell_keep hb4 hHeld.2.1, cell_keep hb4 hHeld.2.2.1, cell_keep hb4 hHeld.2.2.2.1, cell_keep hb4 hHeld.2.2.2.2.1, cell_keep hb4 hHeld.2.2.2.2.2.1, cell_keep hb4 hHeld.2.2.2.2.2.2.1, cell_keep hb4 hHeld.2.2.2.2.2.2.2.1, cell_keep hb4 hHeld.2.2.2.2.2.2.2.2.1, cell_keep hb4 hHeld.2.2.2.2.2.2.2.2.2.1, cell_keep hb4 hHeld.2.2.2.2.2.2.2.2.2.2.1, cell_keep hb4 hHeld.2.2.2.2.2.2.2.2.2.2.2⟩ (fun hHeld => ?_)
        clear hK K
        refine norm_ (a' := ?_) ?_ ?_
        rotate_left
        · show Act.put _ (some 27) _ = _
          simp only [Act.put, List.setIfInBounds_toArray, List.set_cons_zero, List.set_cons_succ, i64_w, i32_w]
          rfl
        refine one_ (i := 4) (N := some 28) #[true, true, true, true, true, false, false, false, false, false, false, false, false, false, false, false, false, false, false, false, false, false, false, false, false, false, false, false, false, false, false, false, false] rfl rfl (by kernel_rfl) (by decide) (fun K hK => ?_)
        refine goes_ Try.func11 (by kernel_rfl) rfl #[.slice A1 l.length c1, .slice A2 l.length c2] (by rfl) rfl rfl (by simp only [List.map_toArray, List.map_cons, List.map_nil]; rfl) ?_
        with_reducible refine (same_q A1 A2 c1 c2 l _ HC1.out Hlc1.out HC2.out Hlc2.out _ HK.out).mono ?_
        rintro e w5 ⟨rfl, hb5⟩
        have n0 := Aside0.mk (below_step (by repeat (first | (with_reducible first | exact HB.out | apply below_alloc | apply pw_below_drewN | apply below_drew1) | refine below_set ?_ (by omega))) hb5)
        clear HB
        have HB := n0
        clear n0
        have nG := Aside0.mk (IsBlk.below (by repeat (with_reducible first | exact HG2.out | apply IsBlk.alloc | apply IsBlk.drewN | apply IsBlk.drew)) hb5)
        clear HG2
        have HG2 := nG
        clear nG
        refine ⟨_, rfl, ?_⟩
        refine hK.out _ _ ⟨cell_keep hb5 hHeld.1, cell_keep hb5 hHeld.2.1, cell_keep hb5 hHeld.2.2.1, cell_keep hb5 hHeld.2.2.2.1, cell_keep hb5 hHeld.2.2.2.2.1, cell_keep hb5 hHeld.2.2.2.2.2.1, cell_keep hb5 hHeld.2.2.2.2.2.2.1, cell_keep hb5 hHeld.2.2.2.2.2.2.2.1, cell_keep hb5 hHeld.2.2.2.2.2.2.2.2.1, cell_keep hb5 hHeld.2.2.2.2.2.2.2.2.2.1, cell_keep hb5 hHeld.2.2.2.2.2.2.2.2.2.2.1, cell_keep hb5 hHeld.2.2.2.2.2.2.2.2.2.2.2⟩ (fun hHeld => ?_)
        clear hK K
        refine norm_ (a' := ?_) ?_ ?_
        rotate_left
        · show Act.put _ (some 28) _ = _
          simp only [Act.put, List.setIfInBounds_toArray, List.set_cons_zero, List.set_cons_succ, i64_w, i32_w]
          rfl
        refine pure_ (i := 5) (N := some 29) (v := ?_) (a' := ?_) #[true, true, true, true, true, true, false, false, false, false, false, false, false, false, false, false, false, false, false, false, false, false, false, false, false, false, false, false, false, false, false, false, false] rfl rfl (by kernel_rfl) (fun _ _ _ h => h) (Or.inl ⟨by rfl, ?_⟩) ?_ ?_
        rotate_left
        · intro w'
          go_simp
          with_reducible rfl
        rotate_left
        · simp only [Act.put, List.setIfInBounds_toArray, List.set_cons_zero, List.set_cons_succ, i64_w, i32_w]
          rfl
        refine pure_ (i := 6) (N := some 30) (v := ?_) (a' := ?_) #[true, true, true, true, true, true, true, false, false, false, false, false, false, false, false, false, false, false, false, false, false, false, false, false, false, false, false, false, false, false, false, false, false] rfl rfl (by kernel_rfl) (fun _ _ _ h => h) (Or.inl ⟨by rfl, ?_⟩) ?_ ?_
        rotate_left
        · intro w'
          go_simp
          with_reducible rfl
        rotate_left
        · simp only [Act.put, List.setIfInBounds_toArray, List.set_cons_zero, List.set_cons_succ, i64_w, i32_w]
          rfl
        refine take_ (i := 7) (N := some 31) (v := ?_) (a' := ?_) #[true, true, true, true, true, true, true, true, false, false, false, false, false, false, false, false, false, false, false, false, false, false, false, false, false, false, false, false, false, false, false, false, false] rfl rfl (by kernel_rfl) (fun _ _ _ h => h) (Or.inl ⟨by rfl, ?_⟩) hHeld ?_ ?_
        rotate_left
        · rintro w' ⟨s0, s1, s2, s3, s4, s5, s6, s7, s8, s9, s10, s11⟩
          go_simp
          with_reducible rfl
        rotate_left
        · simp only [Act.put, List.setIfInBounds_toArray, List.set_cons_zero, List.set_cons_succ, i64_w, i32_w]
          rfl
        refine take_ (i := 9) (N := some 33) (v := ?_) (a' := ?_) #[true, true, true, true, true, true, true, true, false, true, false, false, false, false, false, false, false, false, false, false, false, false, false, false, false, false, false, false, false, false, false, false, false] rfl rfl (by kernel_rfl) (fun _ _ _ h => h) (Or.inl ⟨by rfl, ?_⟩) hHeld ?_ ?_
        rotate_left
        · rintro w' ⟨s0, s1, s2, s3, s4, s5, s6, s7, s8, s9, s10, s11⟩
          go_simp
          with_reducible rfl
        rotate_left
        · simp only [Act.put, List.setIfInBounds_toArray, List.set_cons_zero, List.set_cons_succ, i64_w, i32_w]
          rfl
        refine one_ (i := 8) (N := some 32) #[true, true, true, true, true, true, true, true, true, true, false, false, false, false, false, false, false, false, false, false, false, false, false, false, false, false, false, false, false, false, false, false, false] rfl rfl (by kernel_rfl) (by decide) (fun K hK => ?_)
        refine goes_ Try.func13 (by kernel_rfl) rfl #[.agg #[.int .i64 x0, .int .i64 x1, .int .i64 x2, .int .i64 x3, .int .i64 x4, .int .i64 x5, .int .i64 x6, .int .i64 x7, .int .i64 x8, .int .i64 x9, .int .i64 x10, .int .i64 x11]] (by rfl) rfl rfl (by simp only [List.map_toArray, List.map_cons, List.map_nil]; rfl) ?_
        with_reducible refine (stages_q x0 x1 x2 x3 x4 x5 x6 x7 x8 x9 x10 x11 _).mono ?_
        rw [HL.out]
        rintro e w6 ⟨rfl, hb6⟩
        have n0 := Aside0.mk (below_step (by repeat (first | (with_reducible first | exact HB.out | apply below_alloc | apply pw_below_drewN | apply below_drew1) | refine below_set ?_ (by omega))) hb6)
        clear HB
        have HB := n0
        clear n0
        have nG := Aside0.mk (IsBlk.below (by repeat (with_reducible first | exact HG2.out | apply IsBlk.alloc | apply IsBlk.drewN | apply IsBlk.drew)) hb6)
        clear HG2
        have HG2 := nG
        clear nG
        refine ⟨_, rfl, ?_⟩
        refine hK.out _ _ ⟨cell_keep hb6 hHeld.1, cell_keep hb6 hHeld.2.1, cell_keep hb6 hHeld.2.2.1, cell_keep hb6 hHeld.2.2.2.1, cell_keep hb6 hHeld.2.2.2.2.1, cell_keep hb6 hHeld.2.2.2.2.2.1, cell_keep hb6 hHeld.2.2.2.2.2.2.1, cell_keep hb6 hHeld.2.2.2.2.2.2.2.1, cell_keep hb6 hHeld.2.2.2.2.2.2.2.2.1, cell_keep hb6 hHeld.2.2.2.2.2.2.2.2.2.1, cell_keep hb6 hHeld.2.2.2.2.2.2.2.2.2.2.1, cell_keep hb6 hHeld.2.2.2.2.2.2.2.2.2.2.2⟩ (fun hHeld => ?_)
        clear hK K
        refine norm_ (a' := ?_) ?_ ?_
        rotate_left
        · show Act.put _ (some 32) _ = _
          simp only [Act.put, List.setIfInBounds_toArray, List.set_cons_zero, List.set_cons_succ, i64_w, i32_w]
          rfl
        refine one_ (i := 10) (N := some 34) #[true, true, true, true, true, true, true, true, true, true, true, false, false, false, false, false, false, false, false, false, false, false, false, false, false, false, false, false, false, false, false, false, false] rfl rfl (by kernel_rfl) (by decide) (fun K hK => ?_)
        refine goes_ Try.func12 (by kernel_rfl) rfl #[.agg #[.int .i64 x0, .int .i64 x1, .int .i64 x2, .int .i64 x3, .int .i64 x4, .int .i64 x5, .int .i64 x6, .int .i64 x7, .int .i64 x8, .int .i64 x9, .int .i64 x10, .int .i64 x11]] (by rfl) rfl rfl (by simp only [List.map_toArray, List.map_cons, List.map_nil]; rfl) ?_
        with_reducible refine (targets_r x0 x1 x2 x3 x4 x5 x6 x7 x8 x9 x10 x11 _).mono ?_
        rw [HL.out]
        rintro e w7 ⟨vv3, rfl, hR3, hb7⟩
        obtain ⟨A3, c3, rfl, hlc3, hC3⟩ := Kd.R_reads hR3
        have HC3 := Aside0.mk hC3
        have Hlc3 := Aside0.mk hlc3
        clear hR3 hC3 hlc3
        have n0 := Aside0.mk (below_step (by repeat (first | (with_reducible first | exact HB.out | apply below_alloc | apply pw_below_drewN | apply below_drew1) | refine below_set ?_ (by omega))) hb7)
        clear HB
        have HB := n0
        clear n0
        have nG := Aside0.mk (IsBlk.below (by repeat (with_reducible first | exact HG2.out | apply IsBlk.alloc | apply IsBlk.drewN | apply IsBlk.drew)) hb7)
        clear HG2
        have HG2 := nG
        clear nG
        refine ⟨_, rfl, ?_⟩
        refine hK.out _ _ ⟨cell_keep hb7 hHeld.1, cell_keep hb7 hHeld.2.1, cell_keep hb7 hHeld.2.2.1, cell_keep hb7 hHeld.2.2.2.1, cell_keep hb7 hHeld.2.2.2.2.1, cell_keep hb7 hHeld.2.2.2.2.2.1, cell_keep hb7 hHeld.2.2.2.2.2.2.1, cell_keep hb7 hHeld.2.2.2.2.2.2.2.1, cell_keep hb7 hHeld.2.2.2.2.2.2.2.2.1, cell_keep hb7 hHeld.2.2.2.2.2.2.2.2.2.1, cell_keep hb7 hHeld.2.2.2.2.2.2.2.2.2.2.1, cell_keep hb7 hHeld.2.2.2.2.2.2.2.2.2.2.2⟩ (fun hHeld => ?_)
        clear hK K
        refine norm_ (a' := ?_) ?_ ?_
        rotate_left
        · show Act.put _ (some 34) _ = _
          simp only [Act.put, List.setIfInBounds_toArray, List.set_cons_zero, List.set_cons_succ, i64_w, i32_w]
          rfl
        refine pure_ (i := 11) (N := some 35) (v := ?_) (a' := ?_) #[true, true, true, true, true, true, true, true, true, true, true, true, false, false, false, false, false, false, false, false, false, false, false, false, false, false, false, false, false, false, false, false, false] rfl rfl (by kernel_rfl) (fun _ _ _ h => h) (Or.inl ⟨by rfl, ?_⟩) ?_ ?_
        rotate_left
        · intro w'
          go_simp
          with_reducible rfl
        rotate_left
        · simp only [Act.put, List.setIfInBounds_toArray, List.set_cons_zero, List.set_cons_succ, i64_w, i32_w]
          rfl
        refine pure_ (i := 12) (N := some 36) (v := ?_) (a' := ?_) #[true, true, true, true, true, true, true, true, true, true, true, true, true, false, false, false, false, false, false, false, false, false, false, false, false, false, false, false, false, false, false, false, false] rfl rfl (by kernel_rfl) (fun _ _ _ h => h) (Or.inl ⟨by rfl, ?_⟩) ?_ ?_
        rotate_left
        · intro w'
          go_simp
          with_reducible rfl
        rotate_left
        · simp only [Act.put, List.setIfInBounds_toArray, List.set_cons_zero, List.set_cons_succ, i64_w, i32_w]
          rfl
        refine pure_ (i := 13) (N := some 37) (v := ?_) (a' := ?_) #[true, true, true, true, true, true, true, true, true, true, true, true, true, true, false, false, false, false, false, false, false, false, false, false, false, false, false, false, false, false, false, false, false] rfl rfl (by kernel_rfl) (fun _ _ _ h => h) (Or.inl ⟨by rfl, ?_⟩) ?_ ?_
        rotate_left
        · intro w'
          go_simp
          with_reducible rfl
        rotate_left
        · simp only [Act.put, List.setIfInBounds_toArray, List.set_cons_zero, List.set_cons_succ, i64_w, i32_w]
          rfl
        refine pure_ (i := 14) (N := some 38) (v := ?_) (a' := ?_) #[true, true, true, true, true, true, true, true, true, true, true, true, true, true, true, false, false, false, false, false, false, false, false, false, false, false, false, false, false, false, false, false, false] rfl rfl (by kernel_rfl) (fun _ _ _ h => h) (Or.inl ⟨by rfl, ?_⟩) ?_ ?_
        rotate_left
        · intro w'
          go_simp
          with_reducible rfl
        rotate_left
        · simp only [Act.put, List.setIfInBounds_toArray, List.set_cons_zero, List.set_cons_succ, i64_w, i32_w]
          rfl
        refine pure_ (i := 16) (N := some 40) (v := ?_) (a' := ?_) #[true, true, true, true, true, true, true, true, true, true, true, true, true, true, true, false, true, false, false, false, false, false, false, false, false, false, false, false, false, false, false, false, false] rfl rfl (by kernel_rfl) (fun _ _ _ h => h) (Or.inl ⟨by rfl, ?_⟩) ?_ ?_
        rotate_left
        · intro w'
          go_simp
          with_reducible rfl
        rotate_left
        · simp only [Act.put, List.setIfInBounds_toArray, List.set_cons_zero, List.set_cons_succ, i64_w, i32_w]
          rfl
        refine pure_ (i := 19) (N := some 43) (v := ?_) (a' := ?_) #[true, true, true, true, true, true, true, true, true, true, true, true, true, true, true, false, true, false, false, true, false, false, false, false, false, false, false, false, false, false, false, false, false] rfl rfl (by kernel_rfl) (fun _ _ _ h => h) (Or.inl ⟨by rfl, ?_⟩) ?_ ?_
        rotate_left
        · intro w'
          go_simp
          with_reducible rfl
        rotate_left
        · simp only [Act.put, List.setIfInBounds_toArray, List.set_cons_zero, List.set_cons_succ, i64_w, i32_w]
          rfl
        refine take_ (i := 15) (N := some 39) (v := ?_) (a' := ?_) #[true, true, true, true, true, true, true, true, true, true, true, true, true, true, true, true, true, false, false, true, false, false, false, false, false, false, false, false, false, false, false, false, false] rfl rfl (by kernel_rfl) (fun _ _ _ h => h) (Or.inl ⟨by rfl, ?_⟩) hHeld ?_ ?_
        rotate_left
        · rintro w' ⟨s0, s1, s2, s3, s4, s5, s6, s7, s8, s9, s10, s11⟩
          go_simp
          with_reducible rfl
        rotate_left
        · simp only [Act.put, List.setIfInBounds_toArray, List.set_cons_zero, List.set_cons_succ, i64_w, i32_w]
          rfl
        refine take_ (i := 18) (N := some 42) (v := ?_) (a' := ?_) #[true, true, true, true, true, true, true, true, true, true, true, true, true, true, true, true, true, false, true, true, false, false, false, false, false, false, false, false, false, false, false, false, false] rfl rfl (by kernel_rfl) (fun _ _ _ h => h) (Or.inl ⟨by rfl, ?_⟩) hHeld ?_ ?_
        rotate_left
        · rintro w' ⟨s0, s1, s2, s3, s4, s5, s6, s7, s8, s9, s10, s11⟩
          go_simp
          with_reducible rfl
        rotate_left
        · simp only [Act.put, List.setIfInBounds_toArray, List.set_cons_zero, List.set_cons_succ, i64_w, i32_w]
          rfl
        refine one_ (i := 17) (N := some 41) #[true, true, true, true, true, true, true, true, true, true, true, true, true, true, true, true, true, true, true, true, false, false, false, false, false, false, false, false, false, false, false, false, false] rfl rfl (by kernel_rfl) (by decide) (fun K hK => ?_)
        refine goes_ Try.func14 (by kernel_rfl) rfl #[.agg #[.int .i64 x0, .int .i64 x1, .int .i64 x2, .int .i64 x3, .int .i64 x4, .int .i64 x5, .int .i64 x6, .int .i64 x7, .int .i64 x8, .int .i64 x9, .int .i64 x10, .int .i64 x11], .int .i64 sg] (by rfl) rfl rfl (by simp only [List.map_toArray, List.map_cons, List.map_nil]; rfl) ?_
        with_reducible refine (target_q x0 x1 x2 x3 x4 x5 x6 x7 x8 x9 x10 x11 sg _).mono ?_
        rw [HT.out]
        rintro e w8 ⟨rfl, hb8⟩
        have n0 := Aside0.mk (below_step (by repeat (first | (with_reducible first | exact HB.out | apply below_alloc | apply pw_below_drewN | apply below_drew1) | refine below_set ?_ (by omega))) hb8)
        clear HB
        have HB := n0
        clear n0
        have nG := Aside0.mk (IsBlk.below (by repeat (with_reducible first | exact HG2.out | apply IsBlk.alloc | apply IsBlk.drewN | apply IsBlk.drew)) hb8)
        clear HG2
        have HG2 := nG
        clear nG
        refine ⟨_, rfl, ?_⟩
        refine hK.out _ _ ⟨cell_keep hb8 hHeld.1, cell_keep hb8 hHeld.2.1, cell_keep hb8 hHeld.2.2.1, cell_keep hb8 hHeld.2.2.2.1, cell_keep hb8 hHeld.2.2.2.2.1, cell_keep hb8 hHeld.2.2.2.2.2.1, cell_keep hb8 hHeld.2.2.2.2.2.2.1, cell_keep hb8 hHeld.2.2.2.2.2.2.2.1, cell_keep hb8 hHeld.2.2.2.2.2.2.2.2.1, cell_keep hb8 hHeld.2.2.2.2.2.2.2.2.2.1, cell_keep hb8 hHeld.2.2.2.2.2.2.2.2.2.2.1, cell_keep hb8 hHeld.2.2.2.2.2.2.2.2.2.2.2⟩ (fun hHeld => ?_)
        clear hK K
        refine norm_ (a' := ?_) ?_ ?_
        rotate_left
        · show Act.put _ (some 41) _ = _
          simp only [Act.put, List.setIfInBounds_toArray, List.set_cons_zero, List.set_cons_succ, i64_w, i32_w]
          rfl
        refine one_ (i := 20) (N := some 44) #[true, true, true, true, true, true, true, true, true, true, true, true, true, true, true, true, true, true, true, true, true, false, false, false, false, false, false, false, false, false, false, false, false] rfl rfl (by kernel_rfl) (by decide) (fun K hK => ?_)
        refine goes_ Try.func15 (by kernel_rfl) rfl #[.agg #[.int .i64 x0, .int .i64 x1, .int .i64 x2, .int .i64 x3, .int .i64 x4, .int .i64 x5, .int .i64 x6, .int .i64 x7, .int .i64 x8, .int .i64 x9, .int .i64 x10, .int .i64 x11], .int .i64 sg] (by rfl) rfl rfl (by simp only [List.map_toArray, List.map_cons, List.map_nil]; rfl) ?_
        with_reducible refine (target_r x0 x1 x2 x3 x4 x5 x6 x7 x8 x9 x10 x11 sg _).mono ?_
        rw [HT.out]
        rintro e w9 ⟨rfl, hb9⟩
        have n0 := Aside0.mk (below_step (by repeat (first | (with_reducible first | exact HB.out | apply below_alloc | apply pw_below_drewN | apply below_drew1) | refine below_set ?_ (by omega))) hb9)
        clear HB
        have HB := n0
        clear n0
        have nG := Aside0.mk (IsBlk.below (by repeat (with_reducible first | exact HG2.out | apply IsBlk.alloc | apply IsBlk.drewN | apply IsBlk.drew)) hb9)
        clear HG2
        have HG2 := nG
        clear nG
        refine ⟨_, rfl, ?_⟩
        refine hK.out _ _ ⟨cell_keep hb9 hHeld.1, cell_keep hb9 hHeld.2.1, cell_keep hb9 hHeld.2.2.1, cell_keep hb9 hHeld.2.2.2.1, cell_keep hb9 hHeld.2.2.2.2.1, cell_keep hb9 hHeld.2.2.2.2.2.1, cell_keep hb9 hHeld.2.2.2.2.2.2.1, cell_keep hb9 hHeld.2.2.2.2.2.2.2.1, cell_keep hb9 hHeld.2.2.2.2.2.2.2.2.1, cell_keep hb9 hHeld.2.2.2.2.2.2.2.2.2.1, cell_keep hb9 hHeld.2.2.2.2.2.2.2.2.2.2.1, cell_keep hb9 hHeld.2.2.2.2.2.2.2.2.2.2.2⟩ (fun hHeld => ?_)
        clear hK K
        refine norm_ (a' := ?_) ?_ ?_
        rotate_left
        · show Act.put _ (some 44) _ = _
          simp only [Act.put, List.setIfInBounds_toArray, List.set_cons_zero, List.set_cons_succ, i64_w, i32_w]
          rfl
        refine pure_ (i := 21) (N := some 45) (v := ?_) (a' := ?_) #[true, true, true, true, true, true, true, true, true, true, true, true, true, true, true, true, true, true, true, true, true, true, false, false, false, false, false, false, false, false, false, false, false] rfl rfl (by kernel_rfl) (fun _ _ _ h => h) (Or.inl ⟨by rfl, ?_⟩) ?_ ?_
        rotate_left
        · intro w'
          go_simp
          with_reducible rfl
        rotate_left
        · simp only [Act.put, List.setIfInBounds_toArray, List.set_cons_zero, List.set_cons_succ, i64_w, i32_w]
          rfl
        refine pure_ (i := 22) (N := some 46) (v := ?_) (a' := ?_) #[true, true, true, true, true, true, true, true, true, true, true, true, true, true, true, true, true, true, true, true, true, true, true, false, false, false, false, false, false, false, false, false, false] rfl rfl (by kernel_rfl) (fun _ _ _ h => h) (Or.inl ⟨by rfl, ?_⟩) ?_ ?_
        rotate_left
        · intro w'
          go_simp
          with_reducible rfl
        rotate_left
        · simp only [Act.put, List.setIfInBounds_toArray, List.set_cons_zero, List.set_cons_succ, i64_w, i32_w]
          rfl
        refine pure_ (i := 23) (N := some 47) (v := ?_) (a' := ?_) #[true, true, true, true, true, true, true, true, true, true, true, true, true, true, true, true, true, true, true, true, true, true, true, true, false, false, false, false, false, false, false, false, false] rfl rfl (by kernel_rfl) (fun _ _ _ h => h) (Or.inl ⟨by rfl, ?_⟩) ?_ ?_
        rotate_left
        · intro w'
          go_simp
          with_reducible rfl
        rotate_left
        · simp only [Act.put, List.setIfInBounds_toArray, List.set_cons_zero, List.set_cons_succ, i64_w, i32_w]
          rfl
        refine pure_ (i := 25) (N := some 49) (v := ?_) (a' := ?_) #[true, true, true, true, true, true, true, true, true, true, true, true, true, true, true, true, true, true, true, true, true, true, true, true, false, true, false, false, false, false, false, false, false] rfl rfl (by kernel_rfl) (fun _ _ _ h => h) (Or.inl ⟨by rfl, ?_⟩) ?_ ?_
        rotate_left
        · intro w'
          go_simp
          with_reducible rfl
        rotate_left
        · simp only [Act.put, List.setIfInBounds_toArray, List.set_cons_zero, List.set_cons_succ, i64_w, i32_w]
          rfl
        refine pure_ (i := 28) (N := some 52) (v := ?_) (a' := ?_) #[true, true, true, true, true, true, true, true, true, true, true, true, true, true, true, true, true, true, true, true, true, true, true, true, false, true, false, false, true, false, false, false, false] rfl rfl (by kernel_rfl) (fun _ _ _ h => h) (Or.inl ⟨by rfl, ?_⟩) ?_ ?_
        rotate_left
        · intro w'
          go_simp
          with_reducible rfl
        rotate_left
        · simp only [Act.put, List.setIfInBounds_toArray, List.set_cons_zero, List.set_cons_succ, i64_w, i32_w]
          rfl
        refine take_ (i := 24) (N := some 48) (v := ?_) (a' := ?_) #[true, true, true, true, true, true, true, true, true, true, true, true, true, true, true, true, true, true, true, true, true, true, true, true, true, true, false, false, true, false, false, false, false] rfl rfl (by kernel_rfl) (fun _ _ _ h => h) (Or.inl ⟨by rfl, ?_⟩) hHeld ?_ ?_
        rotate_left
        · rintro w' ⟨s0, s1, s2, s3, s4, s5, s6, s7, s8, s9, s10, s11⟩
          go_simp
          with_reducible rfl
        rotate_left
        · simp only [Act.put, List.setIfInBounds_toArray, List.set_cons_zero, List.set_cons_succ, i64_w, i32_w]
          rfl
        refine take_ (i := 27) (N := some 51) (v := ?_) (a' := ?_) #[true, true, true, true, true, true, true, true, true, true, true, true, true, true, true, true, true, true, true, true, true, true, true, true, true, true, false, true, true, false, false, false, false] rfl rfl (by kernel_rfl) (fun _ _ _ h => h) (Or.inl ⟨by rfl, ?_⟩) hHeld ?_ ?_
        rotate_left
        · rintro w' ⟨s0, s1, s2, s3, s4, s5, s6, s7, s8, s9, s10, s11⟩
          go_simp
          with_reducible rfl
        rotate_left
        · simp only [Act.put, List.setIfInBounds_toArray, List.set_cons_zero, List.set_cons_succ, i64_w, i32_w]
          rfl
        refine one_ (i := 26) (N := some 50) #[true, true, true, true, true, true, true, true, true, true, true, true, true, true, true, true, true, true, true, true, true, true, true, true, true, true, true, true, true, false, false, false, false] rfl rfl (by kernel_rfl) (by decide) (fun K hK => ?_)
        refine goes_ Try.func16 (by kernel_rfl) rfl #[.agg #[.int .i64 x0, .int .i64 x1, .int .i64 x2, .int .i64 x3, .int .i64 x4, .int .i64 x5, .int .i64 x6, .int .i64 x7, .int .i64 x8, .int .i64 x9, .int .i64 x10, .int .i64 x11], .int .i64 sg] (by rfl) rfl rfl (by simp only [List.map_toArray, List.map_cons, List.map_nil]; rfl) ?_
        with_reducible refine (share_q x0 x1 x2 x3 x4 x5 x6 x7 x8 x9 x10 x11 sg _).mono ?_
        rw [HH.out]
        rintro e w10 ⟨vv4, rfl, hR4, hb10⟩
        obtain ⟨A4, c4, rfl, hlc4, hC4⟩ := Kd.R_reads hR4
        have HC4 := Aside0.mk hC4
        have Hlc4 := Aside0.mk hlc4
        clear hR4 hC4 hlc4
        have n0 := Aside0.mk (below_step (by repeat (first | (with_reducible first | exact HB.out | apply below_alloc | apply pw_below_drewN | apply below_drew1) | refine below_set ?_ (by omega))) hb10)
        clear HB
        have HB := n0
        clear n0
        have nG := Aside0.mk (IsBlk.below (by repeat (with_reducible first | exact HG2.out | apply IsBlk.alloc | apply IsBlk.drewN | apply IsBlk.drew)) hb10)
        clear HG2
        have HG2 := nG
        clear nG
        refine ⟨_, rfl, ?_⟩
        refine hK.out _ _ ⟨cell_keep hb10 hHeld.1, cell_keep hb10 hHeld.2.1, cell_keep hb10 hHeld.2.2.1, cell_keep hb10 hHeld.2.2.2.1, cell_keep hb10 hHeld.2.2.2.2.1, cell_keep hb10 hHeld.2.2.2.2.2.1, cell_keep hb10 hHeld.2.2.2.2.2.2.1, cell_keep hb10 hHeld.2.2.2.2.2.2.2.1, cell_keep hb10 hHeld.2.2.2.2.2.2.2.2.1, cell_keep hb10 hHeld.2.2.2.2.2.2.2.2.2.1, cell_keep hb10 hHeld.2.2.2.2.2.2.2.2.2.2.1, cell_keep hb10 hHeld.2.2.2.2.2.2.2.2.2.2.2⟩ (fun hHeld => ?_)
        clear hK K
        refine norm_ (a' := ?_) ?_ ?_
        rotate_left
        · show Act.put _ (some 50) _ = _
          simp only [Act.put, List.setIfInBounds_toArray, List.set_cons_zero, List.set_cons_succ, i64_w, i32_w]
          rfl
        refine one_ (i := 29) (N := some 53) #[true, true, true, true, true, true, true, true, true, true, true, true, true, true, true, true, true, true, true, true, true, true, true, true, true, true, true, true, true, true, false, false, false] rfl rfl (by kernel_rfl) (by decide) (fun K hK => ?_)
        refine goes_ Try.func17 (by kernel_rfl) rfl #[.agg #[.int .i64 x0, .int .i64 x1, .int .i64 x2, .int .i64 x3, .int .i64 x4, .int .i64 x5, .int .i64 x6, .int .i64 x7, .int .i64 x8, .int .i64 x9, .int .i64 x10, .int .i64 x11], .int .i64 sg] (by rfl) rfl rfl (by simp only [List.map_toArray, List.map_cons, List.map_nil]; rfl) ?_
        with_reducible refine (share_r x0 x1 x2 x3 x4 x5 x6 x7 x8 x9 x10 x11 sg _).mono ?_
        rw [HH.out]
        rintro e w11 ⟨vv5, rfl, hR5, hb11⟩
        obtain ⟨A5, c5, rfl, hlc5, hC5⟩ := Kd.R_reads hR5
        have HC5 := Aside0.mk hC5
        have Hlc5 := Aside0.mk hlc5
        clear hR5 hC5 hlc5
        have nC := Aside0.mk (Kd.C_below HC4.out hb11)
        clear HC4
        have HC4 := nC
        clear nC
        have n0 := Aside0.mk (below_step (by repeat (first | (with_reducible first | exact HB.out | apply below_alloc | apply pw_below_drewN | apply below_drew1) | refine below_set ?_ (by omega))) hb11)
        clear HB
        have HB := n0
        clear n0
        have nG := Aside0.mk (IsBlk.below (by repeat (with_reducible first | exact HG2.out | apply IsBlk.alloc | apply IsBlk.drewN | apply IsBlk.drew)) hb11)
        clear HG2
        have HG2 := nG
        clear nG
        refine ⟨_, rfl, ?_⟩
        refine hK.out _ _ ⟨cell_keep hb11 hHeld.1, cell_keep hb11 hHeld.2.1, cell_keep hb11 hHeld.2.2.1, cell_keep hb11 hHeld.2.2.2.1, cell_keep hb11 hHeld.2.2.2.2.1, cell_keep hb11 hHeld.2.2.2.2.2.1, cell_keep hb11 hHeld.2.2.2.2.2.2.1, cell_keep hb11 hHeld.2.2.2.2.2.2.2.1, cell_keep hb11 hHeld.2.2.2.2.2.2.2.2.1, cell_keep hb11 hHeld.2.2.2.2.2.2.2.2.2.1, cell_keep hb11 hHeld.2.2.2.2.2.2.2.2.2.2.1, cell_keep hb11 hHeld.2.2.2.2.2.2.2.2.2.2.2⟩ (fun hHeld => ?_)
        clear hK K
        refine norm_ (a' := ?_) ?_ ?_
        rotate_left
        · show Act.put _ (some 53) _ = _
          simp only [Act.put, List.setIfInBounds_toArray, List.set_cons_zero, List.set_cons_succ, i64_w, i32_w]
          rfl
        refine one_ (i := 30) (N := some 54) #[true, true, true, true, true, true, true, true, true, true, true, true, true, true, true, true, true, true, true, true, true, true, true, true, true, true, true, true, true, true, true, false, false] rfl rfl (by kernel_rfl) (by decide) (fun K hK => ?_)
        refine goes_ Try.func11 (by kernel_rfl) rfl #[.slice A4 m.length c4, .slice A5 m.length c5] (by rfl) rfl rfl (by simp only [List.map_toArray, List.map_cons, List.map_nil]; rfl) ?_
        with_reducible refine (same_q A4 A5 c4 c5 m _ HC4.out Hlc4.out HC5.out Hlc5.out _ HK2.out).mono ?_
        rintro e w12 ⟨rfl, hb12⟩
        have n0 := Aside0.mk (below_step (by repeat (first | (with_reducible first | exact HB.out | apply below_alloc | apply pw_below_drewN | apply below_drew1) | refine below_set ?_ (by omega))) hb12)
        clear HB
        have HB := n0
        clear n0
        have nG := Aside0.mk (IsBlk.below (by repeat (with_reducible first | exact HG2.out | apply IsBlk.alloc | apply IsBlk.drewN | apply IsBlk.drew)) hb12)
        clear HG2
        have HG2 := nG
        clear nG
        refine ⟨_, rfl, ?_⟩
        refine hK.out _ _ ⟨cell_keep hb12 hHeld.1, cell_keep hb12 hHeld.2.1, cell_keep hb12 hHeld.2.2.1, cell_keep hb12 hHeld.2.2.2.1, cell_keep hb12 hHeld.2.2.2.2.1, cell_keep hb12 hHeld.2.2.2.2.2.1, cell_keep hb12 hHeld.2.2.2.2.2.2.1, cell_keep hb12 hHeld.2.2.2.2.2.2.2.1, cell_keep hb12 hHeld.2.2.2.2.2.2.2.2.1, cell_keep hb12 hHeld.2.2.2.2.2.2.2.2.2.1, cell_keep hb12 hHeld.2.2.2.2.2.2.2.2.2.2.1, cell_keep hb12 hHeld.2.2.2.2.2.2.2.2.2.2.2⟩ (fun hHeld => ?_)
        clear hK K
        refine norm_ (a' := ?_) ?_ ?_
        rotate_left
        · show Act.put _ (some 54) _ = _
          simp only [Act.put, List.setIfInBounds_toArray, List.set_cons_zero, List.set_cons_succ, i64_w, i32_w]
          rfl
        refine pure_ (i := 31) (N := some 55) (v := ?_) (a' := ?_) #[true, true, true, true, true, true, true, true, true, true, true, true, true, true, true, true, true, true, true, true, true, true, true, true, true, true, true, true, true, true, true, true, false] rfl rfl (by kernel_rfl) (fun _ _ _ h => h) (Or.inl ⟨by rfl, ?_⟩) ?_ ?_
        rotate_left
        · intro w'
          go_simp
          with_reducible rfl
        rotate_left
        · simp only [Act.put, List.setIfInBounds_toArray, List.set_cons_zero, List.set_cons_succ, i64_w, i32_w]
          rfl
        refine pure_ (i := 32) (N := some 56) (v := ?_) (a' := ?_) #[true, true, true, true, true, true, true, true, true, true, true, true, true, true, true, true, true, true, true, true, true, true, true, true, true, true, true, true, true, true, true, true, true] rfl rfl (by kernel_rfl) (fun _ _ _ h => h) (Or.inl ⟨by rfl, ?_⟩) ?_ ?_
        rotate_left
        · intro w'
          go_simp
          with_reducible rfl
        rotate_left
        · simp only [Act.put, List.setIfInBounds_toArray, List.set_cons_zero, List.set_cons_succ, i64_w, i32_w]
          rfl
        refine done_ (by kernel_rfl) ?_
        have hkw : IntKind.i64.wrap (k + 1) = k + 1 := by rw [R1.i64_wrap64]; unfold wrap64; omega
        go_wp2
        go_roundw
        case rel => exact ⟨k + 1, by first | rfl | go_num | (simp; done), by omega, by omega, HG2, HB⟩
        case measure => simp [intOf]; omega
end Go.Proofs.Ytfnpepfabbgpfaa.WalkBatchTargets
