/-
  Proved here: what the reference's Targets, Target answer. No condition.
-/
import Derived.Test.YtfnpepfabbgpfaaR2
namespace Go.Proofs.Ytfnpepfabbgpfaa.R3
open Go.RowKit Go.Sort Go.Proofs.Ytfnpepfabbgpfaa.B0 Go.Proofs.Ytfnpepfabbgpfaa.B1 Go.Proofs.Ytfnpepfabbgpfaa.B1z Go.Proofs.Ytfnpepfabbgpfaa.B2 Go.Proofs.Ytfnpepfabbgpfaa.B4 Go.Proofs.Ytfnpepfabbgpfaa.R1 Go.Proofs.Ytfnpepfabbgpfaa.R2 Go.Proofs.YtfnpepfabbgpfaaW.PrintWords Go.Proofs.YtfnpepfabbgpfaaW.PrintLast Go.Proofs.YtfnpepfabbgpfaaW.PrintMore
set_option linter.unusedVariables false
set_option linter.unusedSimpArgs false
attribute [local go_sem] max2_int min2_int max_two min_two

set_option maxRecDepth 100000 in
set_option maxHeartbeats 4000000 in
theorem targets_r (v d s u st s0 s1 s2 s3 p q r : Int) (w : World) : Calls Try.prog 12 #[.agg #[.int .i64 v, .int .i64 d, .int .i64 s, .int .i64 u, .int .i64 st, .int .i64 s0, .int .i64 s1, .int .i64 s2, .int .i64 s3, .int .i64 p, .int .i64 q, .int .i64 r]] w fun e w' => ∃ vv, e = .returned vv ∧ RowI w' w.heap.size vv (targetsL v d s u st s0 s1 s2 s3 p q r) ∧ Below w.heap.size w w' := by
  have HB := Aside0.mk (Below.refl w.heap.size w)
  cases hok : okB v d s u st s0 s1 s2 s3 p q r with
  | false =>
    have hl : targetsL v d s u st s0 s1 s2 s3 p q r = [] := by unfold targetsL; rw [hok]; rfl
    rw [hl]
    clear hl
    go_enter Try.func12, Try.ntmps12
    go_wp2_with fail
    refine (check_r v d s u st s0 s1 s2 s3 p q r _).mono ?_
    rw [hok]
    rintro e w1 ⟨n, x, rfl, hx, hb1⟩
    have hx2 : (x != 0) = true := by simpa using hx
    have n0 := Aside0.mk (below_step (by repeat (first | (with_reducible first | exact HB.out | apply below_alloc | apply pw_below_drewN | apply below_drew1) | refine below_set ?_ (by omega))) hb1)
    clear HB hb1
    have HB := n0
    clear n0
    go_wp2
    go_ret
    exact ⟨_, rfl, Kd.R_nil _ _ _ _ _, by repeat (first | (with_reducible first | exact HB.out | apply below_alloc | apply pw_below_drewN | apply below_drew1) | refine below_set ?_ (by omega))⟩
  | true =>
    obtain ⟨l, hl⟩ : ∃ l, stepsL s0 s1 s2 s3 = l := ⟨_, rfl⟩
    have hl4 := steps_upto s0 s1 s2 s3
    rw [hl] at hl4
    have ht : targetsL v d s u st s0 s1 s2 s3 p q r = l.map (fun n => pct n d) ++ [d] := by unfold targetsL; rw [hok, hl]; rfl
    rw [ht]
    have HL := Aside0.mk hl
    clear ht hl
    go_enter Try.func12, Try.ntmps12
    go_wp2_with fail
    refine (check_r v d s u st s0 s1 s2 s3 p q r _).mono ?_
    rw [hok]
    rintro e w1 ⟨n, x, rfl, hx, hb1⟩
    have hx2 : (x != 0) = false := by simpa using hx
    have hx0 := Aside0.mk hx
    clear hx
    have D : IsBlk w1 w.heap.size #[.int .i64 v, .int .i64 d, .int .i64 s, .int .i64 u, .int .i64 st, .int .i64 s0, .int .i64 s1, .int .i64 s2, .int .i64 s3, .int .i64 p, .int .i64 q, .int .i64 r] 24 := IsBlk.below (by repeat (first | ((refine IsBlk.new _ _ ?_); (simp; done)) | apply IsBlk.alloc | apply IsBlk.drewN)) hb1
    have D_0 := blk_cell D 0
    have D_1 := blk_cell D 1
    have D_2 := blk_cell D 2
    have D_3 := blk_cell D 3
    have D_4 := blk_cell D 4
    have D_5 := blk_cell D 5
    have D_6 := blk_cell D 6
    have D_7 := blk_cell D 7
    have D_8 := blk_cell D 8
    have D_9 := blk_cell D 9
    have D_10 := blk_cell D 10
    have D_11 := blk_cell D 11
    simp only [List.getElem?_toArray, List.getElem?_cons_zero, List.getElem?_cons_succ] at D_0 D_1 D_2 D_3 D_4 D_5 D_6 D_7 D_8 D_9 D_10 D_11
    have D_l := blk_lt D
    have HD := Aside0.mk D
    clear D
    have n0 := Aside0.mk (below_step (by repeat (first | (with_reducible first | exact HB.out | apply below_alloc | apply pw_below_drewN | apply below_drew1) | refine below_set ?_ (by omega))) hb1)
    clear HB hb1
    have HB := n0
    clear n0
    go_wp2_with fail
    refine (steps_r v d s u st s0 s1 s2 s3 p q r _).mono ?_
    rintro e w2 ⟨vv, rfl, hR, hb1⟩
    rw [HL.out] at hR
    obtain ⟨A1, c1, rfl, hlc, _⟩ := Kd.R_reads hR
    have HR := Aside0.mk hR
    clear hR hx2
    have D' := IsBlk.below (by repeat (with_reducible first | exact HD.out | apply IsBlk.alloc | apply IsBlk.drewN | apply IsBlk.drew)) hb1
    clear D_0 D_1 D_2 D_3 D_4 D_5 D_6 D_7 D_8 D_9 D_10 D_11 D_l HD
    have HD := Aside0.mk D'
    clear D'
    have n0 := Aside0.mk (below_step (by repeat (first | (with_reducible first | exact HB.out | apply below_alloc | apply pw_below_drewN | apply below_drew1) | refine below_set ?_ (by omega))) hb1)
    clear HB hb1
    have HB := n0
    clear n0
    go_wp2_with fail
    have hD2 := blk_lt HD.out
    go_loopw [5, 7] (fun v5 v7 wr => ∃ (k : Nat), v7 = .int .i64 k ∧ k ≤ l.length ∧ Aside0 (RowI wr w2.heap.size v5 ((l.take k).map (fun n => pct n d))) ∧ Aside0 (Kd.R (Kd.int .i64) 3 wr w1.heap.size (fun k => k < w2.heap.size) (.slice A1 l.length c1) l) ∧ Aside0 (IsBlk wr w.heap.size #[.int .i64 v, .int .i64 d, .int .i64 s, .int .i64 u, .int .i64 st, .int .i64 s0, .int .i64 s1, .int .i64 s2, .int .i64 s3, .int .i64 p, .int .i64 q, .int .i64 r] 24) ∧ Aside0 (Below w2.heap.size w2 wr)) (fun _ v7 _ => l.length - (intOf v7).toNat)
    case atStart => exact ⟨0, rfl, by omega, ⟨Kd.R_nil _ _ _ _ _⟩, ⟨Kd.R_mono (Kd.R_bound HR.out) (fun k hk => hk.2.2.1)⟩, HD, ⟨Below.refl _ _⟩⟩
    case round =>
      have HBw := HB
      clear HR HD HB
      obtain ⟨k, rfl, hk, HO, HR, HD0, HB⟩ := hrel
      have D := HD0.out
      clear HD0
      have D_0 := blk_cell D 0
      have D_1 := blk_cell D 1
      have D_2 := blk_cell D 2
      have D_3 := blk_cell D 3
      have D_4 := blk_cell D 4
      have D_5 := blk_cell D 5
      have D_6 := blk_cell D 6
      have D_7 := blk_cell D 7
      have D_8 := blk_cell D 8
      have D_9 := blk_cell D 9
      have D_10 := blk_cell D 10
      have D_11 := blk_cell D 11
      simp only [List.getElem?_toArray, List.getElem?_cons_zero, List.getElem?_cons_succ] at D_0 D_1 D_2 D_3 D_4 D_5 D_6 D_7 D_8 D_9 D_10 D_11
      have D_l := blk_lt D
      have HD := Aside0.mk D
      clear D
      have HX : Aside0 (((l.take k).map (fun n => pct n d)).length ≤ 1000) := ⟨by rw [List.length_map]; have := List.length_take_le k l; omega⟩
      by_cases hlt : k < l.length
      · have hi1 : decide ((k : Int) < (l.length : Int)) = true := by simp; omega
        have hki : (k : Int) < (l.length : Int) := by omega
        have hmax : (l.length : Int) ≤ 4 := by omega
        obtain ⟨rb, ro, rfl, hrb, ck⟩ := row_at (Kd.R_mono HR.out (fun _ _ => trivial)) k hlt
        obtain ⟨n, hn⟩ : ∃ n, l.getD k 0 = n := ⟨_, rfl⟩
        rw [hn] at ck
        have he : (l.take (k + 1)).map (fun n => pct n d) = (l.take k).map (fun n => pct n d) ++ [pct n d] := by
          rw [List.take_succ_eq_append_getElem hlt, List.map_append, ← hn]
          simp [hlt]
        have HE := Aside0.mk he
        clear he hn
        go_wp2_with fail
        refine start_ (n := 11) (S := fun w' => w'.cell? ⟨rb, ro + k, none⟩ = some (.int .i64 n) ∧ w'.cell? ⟨w.heap.size, 1, none⟩ = some (.int .i64 d)) (ds := [9]) #[false, false, false, false, false, false, false, false, false, false, false] (by kernel_rfl) rfl rfl ⟨ck, D_1⟩ (fun hHeld => ?_)
        refine pure_ (i := 0) (N := some 23) (v := ?_) (a' := ?_) #[true, false, false, false, false, false, false, false, false, false, false] rfl rfl (by kernel_rfl) (fun _ _ _ h => h) (Or.inl ⟨by rfl, ?_⟩) ?_ ?_
        rotate_left
        · intro w'
          go_simp
          with_reducible rfl
        rotate_left
        · simp only [Act.put, List.setIfInBounds_toArray, List.set_cons_zero, List.set_cons_succ, i64_w, i32_w]
          rfl
        refine pure_ (i := 1) (N := some 24) (v := ?_) (a' := ?_) #[true, true, false, false, false, false, false, false, false, false, false] rfl rfl (by kernel_rfl) (fun _ _ _ h => h) (Or.inl ⟨by rfl, ?_⟩) ?_ ?_
        rotate_left
        · intro w'
          go_simp
          with_reducible rfl
        rotate_left
        · simp only [Act.put, List.setIfInBounds_toArray, List.set_cons_zero, List.set_cons_succ, i64_w, i32_w]
          rfl
        refine pure_ (i := 2) (N := some 25) (v := ?_) (a' := ?_) #[true, true, true, false, false, false, false, false, false, false, false] rfl rfl (by kernel_rfl) (fun _ _ _ h => h) (Or.inl ⟨by rfl, ?_⟩) ?_ ?_
        rotate_left
        · intro w'
          go_simp
          with_reducible rfl
        rotate_left
        · simp only [Act.put, List.setIfInBounds_toArray, List.set_cons_zero, List.set_cons_succ, i64_w, i32_w]
          rfl
        refine pure_ (i := 3) (N := some 26) (v := ?_) (a' := ?_) #[true, true, true, true, false, false, false, false, false, false, false] rfl rfl (by kernel_rfl) (fun _ _ _ h => h) (Or.inl ⟨by rfl, ?_⟩) ?_ ?_
        rotate_left
        · intro w'
          go_simp
          with_reducible rfl
        rotate_left
        · simp only [Act.put, List.setIfInBounds_toArray, List.set_cons_zero, List.set_cons_succ, i64_w, i32_w]
          rfl
        refine pure_ (i := 5) (N := some 28) (v := ?_) (a' := ?_) #[true, true, true, true, false, true, false, false, false, false, false] rfl rfl (by kernel_rfl) (fun _ _ _ h => h) (Or.inl ⟨by rfl, ?_⟩) ?_ ?_
        rotate_left
        · intro w'
          go_simp
          with_reducible rfl
        rotate_left
        · simp only [Act.put, List.setIfInBounds_toArray, List.set_cons_zero, List.set_cons_succ, i64_w, i32_w]
          rfl
        refine take_ (i := 4) (N := some 27) (v := ?_) (a' := ?_) #[true, true, true, true, true, true, false, false, false, false, false] rfl rfl (by kernel_rfl) (fun _ _ _ h => h) (Or.inl ⟨by rfl, ?_⟩) hHeld ?_ ?_
        rotate_left
        · rintro w' ⟨s0, s1⟩
          go_simp
          with_reducible rfl
        rotate_left
        · simp only [Act.put, List.setIfInBounds_toArray, List.set_cons_zero, List.set_cons_succ, i64_w, i32_w]
          rfl
        refine take_ (i := 6) (N := some 29) (v := ?_) (a' := ?_) #[true, true, true, true, true, true, true, false, false, false, false] rfl rfl (by kernel_rfl) (fun _ _ _ h => h) (Or.inl ⟨by rfl, ?_⟩) hHeld ?_ ?_
        rotate_left
        · rintro w' ⟨s0, s1⟩
          go_simp
          with_reducible rfl
        rotate_left
        · simp only [Act.put, List.setIfInBounds_toArray, List.set_cons_zero, List.set_cons_succ, i64_w, i32_w]
          rfl
        refine one_ (i := 7) (N := some 30) #[true, true, true, true, true, true, true, true, false, false, false] rfl rfl (by kernel_rfl) (by decide) (fun K hK => ?_)
        refine goes_ Try.func28 (by kernel_rfl) rfl #[.int .i64 n, .int .i64 d, .bool true] (by rfl) rfl rfl (by simp only [List.map_toArray, List.map_cons, List.map_nil]; rfl) ?_
        with_reducible refine (pct_r n d _).mono ?_
        rintro e w3 ⟨rfl, hb3⟩
        refine ⟨_, rfl, ?_⟩
        have nO := Aside0.mk (Kd.R_below (by (with_reducible repeat (first | apply Kd.R_alloc | apply Kd.R_drewN | apply Kd.R_drew)); exact HO.out) hb3)
        have nR := Aside0.mk (Kd.R_below (by (with_reducible repeat (first | apply Kd.R_alloc | apply Kd.R_drewN | apply Kd.R_drew)); exact HR.out) hb3)
        have nD := Aside0.mk (IsBlk.below (by repeat (with_reducible first | exact HD.out | apply IsBlk.alloc | apply IsBlk.drewN | apply IsBlk.drew)) hb3)
        have n0 := Aside0.mk (below_step (by repeat (first | (with_reducible first | exact HB.out | apply below_alloc | apply pw_below_drewN | apply below_drew1) | refine below_set ?_ (by omega))) hb3)
        clear HB HO HR HD
        have HB := n0
        have HO := nO
        have HR := nR
        have HD := nD
        clear n0 nO nR nD
        have hsep : ∀ k, k < w2.heap.size → some k ≠ Value.ownBlock u5 := fun k hk e => by
          obtain ⟨inner, ho⟩ := Kd.R_own HO.out
          have := own_base ho k e.symm
          omega
        have HSEP := Aside0.mk hsep
        clear hsep
        refine hK.out _ _ ⟨cell_keep hb3 hHeld.1, cell_keep hb3 hHeld.2⟩ (fun hHeld => ?_)
        clear hK K
        refine norm_ (a' := ?_) ?_ ?_
        rotate_left
        · show Act.put _ (some 30) _ = _
          simp only [Act.put, List.setIfInBounds_toArray, List.set_cons_zero, List.set_cons_succ, i64_w, i32_w]
          rfl
        refine one_ (i := 8) (N := some 31) #[true, true, true, true, true, true, true, true, true, false, false] rfl rfl (by kernel_rfl) (by decide) (fun K hK => ?_)
        refine value_ (w1 := ?_) (v := ?_) (by rfl) rfl ?_ ?_
        rotate_left 2
        · go_simp
          constructor
          · rfl
          · rfl
        refine hK.out _ _ ⟨cell_keep (below_alloc (Below.refl _ _) _) hHeld.1, cell_keep (below_alloc (Below.refl _ _) _) hHeld.2⟩ (fun hHeld => ?_)
        clear hK K
        refine norm_ (a' := ?_) ?_ ?_
        rotate_left
        · show Act.put _ (some 31) _ = _
          simp only [Act.put, List.setIfInBounds_toArray, List.set_cons_zero, List.set_cons_succ, i64_w, i32_w]
          rfl
        refine last_ (i := 9) (N := some 32) #[true, true, true, true, true, true, true, true, true, true, false] rfl rfl (by kernel_rfl) (by decide) (fun K hK => ?_)
        refine Kd.R_append_step (Kd.int .i64) (w0 := w2) w2.heap.size (by rfl) (.tmp 23) (.tmp 31) 27 3 (.int .i64 0) 8 rfl Try.underlying27 info3 rfl (by decide) (by omega) u5 ((l.take k).map (fun n => pct n d)) (pct n d) [.int .i64 (pct n d)] (fun _ => True) (fun _ => False) rfl rfl ?aP (fun _ hk => hk.elim) (fun _ _ => trivial) ?aO ?aB ?aS ?aL ?_
        case aP => exact rfl
        case aO => exact (by (with_reducible repeat (first | apply Kd.R_alloc | apply Kd.R_drewN | apply Kd.R_drew)); exact HO.out)
        case aB => exact (by repeat (first | (with_reducible first | exact HB.out | apply below_alloc | apply pw_below_drewN | apply below_drew1) | refine below_set ?_ (by omega)))
        case aS => exact below_size (by repeat (first | (with_reducible first | exact HB.out | apply below_alloc | apply pw_below_drewN | apply below_drew1) | refine below_set ?_ (by omega)))
        case aL => have := HX.out; omega
        intro v1 w4 ho hb hg hat
        have nR := Aside0.mk (Kd.R_grown (by (with_reducible repeat (first | apply Kd.R_alloc | apply Kd.R_drewN | apply Kd.R_drew)); exact HR.out) hg HSEP.out)
        have DD := Aside0.mk (IsBlk_grown (by repeat (with_reducible first | exact HD.out | apply IsBlk.alloc | apply IsBlk.drewN | apply IsBlk.drew)) hg (HSEP.out _ hD2))
        have HO1 := Aside0.mk ho
        have HB1 := Aside0.mk hb
        clear ho hb hg hat
        refine hK.out _ _ ?_
        clear hK K
        refine norm_ (a' := ?_) ?_ ?_
        rotate_left
        · show Act.put _ (some 32) _ = _
          simp only [Act.put, List.setIfInBounds_toArray, List.set_cons_zero, List.set_cons_succ, i64_w, i32_w]
          rfl
        refine pure_ (i := 10) (N := some 5) (v := ?_) (a' := ?_) #[true, true, true, true, true, true, true, true, true, true, true] rfl rfl (by kernel_rfl) (fun _ _ _ h => h) (Or.inl ⟨by rfl, ?_⟩) ?_ ?_
        rotate_left
        · intro w'
          go_simp
          with_reducible rfl
        rotate_left
        · simp only [Act.put, List.setIfInBounds_toArray, List.set_cons_zero, List.set_cons_succ, i64_w, i32_w]
          rfl
        refine done_ (by kernel_rfl) ?_
        go_wp2
        go_roundw
        case rel => exact ⟨k + 1, by go_num, by omega, ⟨by rw [HE.out]; exact HO1.out⟩, nR, DD, HB1⟩
        case measure => simp [intOf]; omega
      · have hi1 : decide ((k : Int) < (l.length : Int)) = false := by simp; omega
        have hkl : k = l.length := by omega
        subst hkl
        go_wp2_with (
          (with_reducible refine gate_builtin (b := .append) (xs := #[.tmp 33, .tmp 36]) rfl ?_)
          at_builtin
          refine Kd.R_append (Kd.int .i64) (w0 := w2) w2.heap.size rfl (.tmp 33) (.tmp 36) 27 3 (.int .i64 0) 8 rfl Try.underlying27 info3 rfl (by decide) (by omega) u5 ((l.take l.length).map (fun n => pct n d)) d [.int .i64 d] (fun _ => True) (fun _ => False) rfl (by first | (go_simp; done) | (go_simp; rfl)) ?aP (fun _ hk => hk.elim) (fun _ _ => trivial) ?aO ?aB ?aS ?aL ?_
          case aP => exact rfl
          case aO => exact (by (with_reducible repeat (first | apply Kd.R_alloc | apply Kd.R_drewN | apply Kd.R_drew)); exact HO.out)
          case aB => exact (by repeat (first | (with_reducible first | exact HB.out | apply below_alloc | apply pw_below_drewN | apply below_drew1) | refine below_set ?_ (by omega)))
          case aS => exact below_size (by repeat (first | (with_reducible first | exact HB.out | apply below_alloc | apply pw_below_drewN | apply below_drew1) | refine below_set ?_ (by omega)))
          case aL => have := HX.out; omega
          intro v1 w4 ho hb hg hat
          have HO1 := Aside0.mk ho
          have HB1 := Aside0.mk hb
          clear ho hb hg hat)
        go_ret
        refine ⟨_, rfl, ?_, below_step HBw.out HB1.out⟩
        have h := HO1.out
        rw [List.take_length] at h
        exact Kd.R_lower h (below_size HBw.out)

set_option maxHeartbeats 2000000 in
theorem target_r (v d s u st s0 s1 s2 s3 p q r i : Int) (w : World) : Calls Try.prog 15 #[.agg #[.int .i64 v, .int .i64 d, .int .i64 s, .int .i64 u, .int .i64 st, .int .i64 s0, .int .i64 s1, .int .i64 s2, .int .i64 s3, .int .i64 p, .int .i64 q, .int .i64 r], .int .i64 i] w fun e w' => e = .returned (.int .i64 (targetV v d s u st s0 s1 s2 s3 p q r i)) ∧ Below w.heap.size w w' := by
  have HB := Aside0.mk (Below.refl w.heap.size w)
  obtain ⟨l, hl⟩ : ∃ l, targetsL v d s u st s0 s1 s2 s3 p q r = l := ⟨_, rfl⟩
  have ht := targets_upto v d s u st s0 s1 s2 s3 p q r
  unfold targetV
  rw [hl] at ht ⊢
  have HL := Aside0.mk hl
  clear hl
  obtain ⟨z, hz⟩ : ∃ z, (if 0 ≤ i ∧ i < (l.length : Int) then l.getD i.toNat 0 else 0) = z := ⟨_, rfl⟩
  rw [hz]
  have HZ := Aside0.mk hz
  clear hz
  go_enter Try.func15, Try.ntmps15
  go_wp2_with fail
  refine (targets_r v d s u st s0 s1 s2 s3 p q r _).mono ?_
  rintro e w1 ⟨vv, rfl, hR, hb1⟩
  rw [HL.out] at hR
  obtain ⟨A1, c1, rfl, hlc, _⟩ := Kd.R_reads hR
  have HR := Aside0.mk hR
  have n0 := Aside0.mk (below_step (by repeat (first | (with_reducible first | exact HB.out | apply below_alloc | apply pw_below_drewN | apply below_drew1) | refine below_set ?_ (by omega))) hb1)
  clear HB hb1 hR
  have HB := n0
  clear n0
  have hmax : (l.length : Int) ≤ 5 := by omega
  by_cases h0 : i < 0
  · have h1 : decide (i < 0) = true := by simpa using h0
    have hv : ¬ (0 ≤ i ∧ i < (l.length : Int)) := by omega
    obtain rfl : z = 0 := by rw [← HZ.out, if_neg hv]
    clear hv
    go_wp2
    go_ret
    exact ⟨rfl, by repeat (first | (with_reducible first | exact HB.out | apply below_alloc | apply pw_below_drewN | apply below_drew1) | refine below_set ?_ (by omega))⟩
  · have h1 : decide (i < 0) = false := by simpa using h0
    by_cases hlt : i < (l.length : Int)
    · have h2 : decide ((l.length : Int) ≤ i) = false := by simp; omega
      obtain ⟨rb, ro, rfl, hrb, ck⟩ := row_at HR.out i.toNat (by omega)
      have hi0 : (0 : Int) ≤ i := by omega
      have hzz := HZ.out
      rw [if_pos ⟨hi0, hlt⟩] at hzz
      rw [hzz] at ck
      clear hzz
      clear h0
      go_wp2
      go_ret
      exact ⟨rfl, by repeat (first | (with_reducible first | exact HB.out | apply below_alloc | apply pw_below_drewN | apply below_drew1) | refine below_set ?_ (by omega))⟩
    · have h2 : decide ((l.length : Int) ≤ i) = true := by simp; omega
      have hv : ¬ (0 ≤ i ∧ i < (l.length : Int)) := by omega
      obtain rfl : z = 0 := by rw [← HZ.out, if_neg hv]
      clear hv
      go_wp2
      go_ret
      exact ⟨rfl, by repeat (first | (with_reducible first | exact HB.out | apply below_alloc | apply pw_below_drewN | apply below_drew1) | refine below_set ?_ (by omega))⟩
end Go.Proofs.Ytfnpepfabbgpfaa.R3
