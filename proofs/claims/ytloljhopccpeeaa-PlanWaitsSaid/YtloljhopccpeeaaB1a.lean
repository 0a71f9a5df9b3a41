/-
  Proved here: what spec.Check answers, in some cases. No condition.
-/
import Derived.Test.YtloljhopccpeeaaB1
namespace Go.Proofs.Ytloljhopccpeeaa.B1a
open Go.RowKit Go.Sort Go.Proofs.Ytloljhopccpeeaa.B0 Go.Proofs.Ytloljhopccpeeaa.Mild Go.Proofs.Ytloljhopccpeeaa.B1 Go.Proofs.YtloljhopccpeeaaW.PrintWords Go.Proofs.YtloljhopccpeeaaW.PrintLast Go.Proofs.YtloljhopccpeeaaW.PrintMore
set_option linter.unusedVariables false
set_option linter.unusedSimpArgs false
attribute [local go_sem] max2_int min2_int max_two min_two mild mildAt idx0 idx1 idx2 idx3 idx4 idx5 idx6 idx7 idx8 idx9 idx10 idx11

set_option maxRecDepth 100000 in
set_option maxHeartbeats 8000000 in
theorem check_aa (v d s u st s0 s1 s2 s3 p q r : Int) (w : World) (h3 : betw u 0 d = false) (h4 : betw st 0 2 = false) (bs : List Bool) (hbs : bs = [betw v 1 1048576, betw d 1 16, betw s 0 (wrap64 (16 - d)), false, false, stepB st s0 0 false, stepB st s1 s0 true, stepB st s2 s1 true, stepB st s3 s2 true, betw p 1 1048576, betw q 0 1048576, betw r 1 1048576]) :
    Calls Try.prog 36 #[.agg #[.int .i64 v, .int .i64 d, .int .i64 s, .int .i64 u, .int .i64 st, .int .i64 s0, .int .i64 s1, .int .i64 s2, .int .i64 s3, .int .i64 p, .int .i64 q, .int .i64 r]] w fun e w' => ∃ r x : Int, e = .returned (.tuple #[.int .i64 r, .int .i64 x]) ∧ (x == 0) = bs.all (fun b => b) ∧ Below w.heap.size w w' := by
  have HB := Aside0.mk (Below.refl w.heap.size w)
  have HS := Aside0.mk hbs
  clear hbs
  have k3 : ∀ w, Calls Try.prog 41 #[.int .i64 u, .int .i64 0, .int .i64 d] w fun e w' => e = .returned (.bool false) ∧ Over w w' := fun w => by have h := betw_o u 0 d w; rw [h3] at h; exact h
  have k4 : ∀ w, Calls Try.prog 41 #[.int .i64 st, .int .i64 0, .int .i64 2] w fun e w' => e = .returned (.bool false) ∧ Over w w' := fun w => by have h := betw_o st 0 2 w; rw [h4] at h; exact h
  have K3 := Aside0.mk k3
  have K4 := Aside0.mk k4
  clear k3 k4 h3 h4
  go_enter Try.func36, Try.ntmps36
  go_upto_region 1 with fail
  have D : IsBlk (w.alloc (.cells #[.int .i64 v, .int .i64 d, .int .i64 s, .int .i64 u, .int .i64 st, .int .i64 s0, .int .i64 s1, .int .i64 s2, .int .i64 s3, .int .i64 p, .int .i64 q, .int .i64 r] 24)) w.heap.size #[.int .i64 v, .int .i64 d, .int .i64 s, .int .i64 u, .int .i64 st, .int .i64 s0, .int .i64 s1, .int .i64 s2, .int .i64 s3, .int .i64 p, .int .i64 q, .int .i64 r] 24 := IsBlk.new _ _ rfl
  have D_0 := blk_cell D 0
  have D_1 := blk_cell D 1
  have D_2 := blk_cell D 2
  have D_3 := blk_cell D 3
  have D_4 := blk_cell D 4
  have D_5 := blk_cell D 5
  have D_6 := blk_cell D 6
  have D_7 := blk_cell D 7
  have D_8 := blk_cell D 8
  have D_9 := blk_cell D 9
  have D_10 := blk_cell D 10
  have D_11 := blk_cell D 11
  simp only [List.getElem?_toArray, List.getElem?_cons_zero, List.getElem?_cons_succ] at D_0 D_1 D_2 D_3 D_4 D_5 D_6 D_7 D_8 D_9 D_10 D_11
  have D_l := blk_lt D
  have HD := Aside0.mk D
  clear D
  have r_0 := cell_regrown D_0
  have r_1 := cell_regrown D_1
  have r_2 := cell_regrown D_2
  have r_3 := cell_regrown D_3
  have r_4 := cell_regrown D_4
  have r_5 := cell_regrown D_5
  have r_6 := cell_regrown D_6
  have r_7 := cell_regrown D_7
  have r_8 := cell_regrown D_8
  have r_9 := cell_regrown D_9
  have r_10 := cell_regrown D_10
  have r_11 := cell_regrown D_11
  clear D_0 D_1 D_2 D_3 D_4 D_5 D_6 D_7 D_8 D_9 D_10 D_11 D_l
  go_cut [4] (fun v4 wc => ∃ g : Nat, v4 = .pointer (some ⟨g, 0, none⟩) ∧ IsBlk wc g (bs.map Value.bool).toArray 70 ∧ Aside0 (Below w.heap.size w wc))
  case first =>
    refine wp_region_mild 60 (by kernel_rfl) (by kernel_rfl) _ _ (.cells #[.bool false, .bool false, .bool false, .bool false, .bool false, .bool false, .bool false, .bool false, .bool false, .bool false, .bool false, .bool false] 70) rfl rfl rfl ?hA ?_
    case hA =>
      intro K a w hK
      refine wpOp_step rfl (fun K' hK' => ?_)
      go_simp
      exact hK' _ _ hK
    intro Lq HLq
    simp only [List.take_succ_cons, List.take_zero]
    repeat (
      refine WM_step ?_
      intro K hK
      go_simp
      first
        | (refine hK _ ?_; clear hK K)
        | (apply Exists.intro
           refine ⟨fun dq os => ?_, hK _ ?_⟩
           (first | (go_at_call 41; with_reducible exact K3.out _) | (go_at_call 41; with_reducible exact K4.out _) | (go_at_call 41; with_reducible exact betw_o _ _ _ _) | (go_at_call 42; first | with_reducible exact step0_o _ _ _ _ _ _ _ _ _ _ _ _ _ | with_reducible exact step1_o _ _ _ _ _ _ _ _ _ _ _ _ _ | with_reducible exact step2_o _ _ _ _ _ _ _ _ _ _ _ _ _ | with_reducible exact step3_o _ _ _ _ _ _ _ _ _ _ _ _ _))
           clear hK K))
    refine WM_nil (HLq.out _ ?_)
    intro g w' hb hg hob
    have E : IsBlk w' g #[.bool false, .bool false, .bool false, .bool false, .bool false, .bool false, .bool false, .bool false, .bool false, .bool false, .bool false, .bool false] 70 := hob
    have E_0 := blk_cell E 0
    have E_1 := blk_cell E 1
    have E_2 := blk_cell E 2
    have E_3 := blk_cell E 3
    have E_4 := blk_cell E 4
    have E_5 := blk_cell E 5
    have E_6 := blk_cell E 6
    have E_7 := blk_cell E 7
    have E_8 := blk_cell E 8
    have E_9 := blk_cell E 9
    have E_10 := blk_cell E 10
    have E_11 := blk_cell E 11
    simp only [List.getElem?_toArray, List.getElem?_cons_zero, List.getElem?_cons_succ] at E_0 E_1 E_2 E_3 E_4 E_5 E_6 E_7 E_8 E_9 E_10 E_11
    have E_z0 := blk_frozen E 0
    have E_z1 := blk_frozen E 1
    have E_z2 := blk_frozen E 2
    have E_z3 := blk_frozen E 3
    have E_z4 := blk_frozen E 4
    have E_z5 := blk_frozen E 5
    have E_z6 := blk_frozen E 6
    have E_z7 := blk_frozen E 7
    have E_z8 := blk_frozen E 8
    have E_z9 := blk_frozen E 9
    have E_z10 := blk_frozen E 10
    have E_z11 := blk_frozen E 11
    have E_l := blk_lt E
    have HE := Aside0.mk E
    clear E
    have hB := Aside0.mk (below_step (by repeat (first | (with_reducible first | exact HB.out | apply below_alloc | apply pw_below_drewN | apply below_drew1) | refine below_set ?_ (by omega))) hb)
    have hg1 : w.heap.size ≤ g := Nat.le_trans (Nat.le_of_lt (by simp)) hg
    clear hob hb hg
    go_wp2_with fail
    go_meet
    refine ⟨g, rfl, ?_, ⟨?_⟩⟩
    · rw [HS.out]
      simp only [List.map_cons, List.map_nil]
      exact blk12 HE.out _ _ _ _ _ _ _ _ _ _ _ _
    · repeat (first | (with_reducible exact hB.out) | refine below_set ?_ (by omega))
  case rest =>
    obtain ⟨b0, b1, b2, b3, b4, b5, b6, b7, b8, b9, b10, b11, rfl⟩ : ∃ b0 b1 b2 b3 b4 b5 b6 b7 b8 b9 b10 b11, bs = [b0, b1, b2, b3, b4, b5, b6, b7, b8, b9, b10, b11] := ⟨_, _, _, _, _, _, _, _, _, _, _, _, HS.out⟩
    clear HS r_0 r_1 r_2 r_3 r_4 r_5 r_6 r_7 r_8 r_9 r_10 r_11 HD HB K3 K4 
    obtain ⟨g, rfl, E, HB⟩ := hcut
    simp only [List.map_cons, List.map_nil] at E
    have E_0 := blk_cell E 0
    have E_1 := blk_cell E 1
    have E_2 := blk_cell E 2
    have E_3 := blk_cell E 3
    have E_4 := blk_cell E 4
    have E_5 := blk_cell E 5
    have E_6 := blk_cell E 6
    have E_7 := blk_cell E 7
    have E_8 := blk_cell E 8
    have E_9 := blk_cell E 9
    have E_10 := blk_cell E 10
    have E_11 := blk_cell E 11
    simp only [List.getElem?_toArray, List.getElem?_cons_zero, List.getElem?_cons_succ] at E_0 E_1 E_2 E_3 E_4 E_5 E_6 E_7 E_8 E_9 E_10 E_11
    have E_z0 := blk_frozen E 0
    have E_z1 := blk_frozen E 1
    have E_z2 := blk_frozen E 2
    have E_z3 := blk_frozen E 3
    have E_z4 := blk_frozen E 4
    have E_z5 := blk_frozen E 5
    have E_z6 := blk_frozen E 6
    have E_z7 := blk_frozen E 7
    have E_z8 := blk_frozen E 8
    have E_z9 := blk_frozen E 9
    have E_z10 := blk_frozen E 10
    have E_z11 := blk_frozen E 11
    have E_l := blk_lt E
    have HE := Aside0.mk E
    clear E
    go_wp2
    go_loop [68] (fun v => ∃ k : Int, 0 ≤ k ∧ k ≤ 12 ∧ v = .int .i64 k ∧ (([b0, b1, b2, b3, b4, b5, b6, b7, b8, b9, b10, b11].take k.toNat).all (fun b => b)) = true) (fun v => 12 - (intOf v).toNat)
    case atStart => exact ⟨0, by omega, by omega, rfl, rfl⟩
    case round =>
      obtain ⟨k, hk0, hk, rfl, hall⟩ := hrel
      have HA := Aside0.mk hall
      clear hall
      rcases (by omega : k = 0 ∨ k = 1 ∨ k = 2 ∨ k = 3 ∨ k = 4 ∨ k = 5 ∨ k = 6 ∨ k = 7 ∨ k = 8 ∨ k = 9 ∨ k = 10 ∨ k = 11 ∨ k = 12) with rfl | rfl | rfl | rfl | rfl | rfl | rfl | rfl | rfl | rfl | rfl | rfl | rfl
      · clear hk hk0
        cases b0 with
        | false =>
          go_wp2
          refine bodyPost_ret (v := .tuple #[.int .i64 1, .int .i64 11]) (by simp [results, Try.results36, go_sem]) rfl ⟨1, 11, rfl, ?_, HB.out⟩
          simp
        | true =>
          go_wp2
          go_round
          case rel => exact ⟨1, by omega, by omega, rfl, by have h := HA.out; (simp at h ⊢ <;> first | exact h | simp_all)⟩
          case measure => simp [intOf]
      · clear hk hk0
        cases b1 with
        | false =>
          go_wp2
          refine bodyPost_ret (v := .tuple #[.int .i64 2, .int .i64 11]) (by simp [results, Try.results36, go_sem]) rfl ⟨2, 11, rfl, ?_, HB.out⟩
          simp
        | true =>
          go_wp2
          go_round
          case rel => exact ⟨2, by omega, by omega, rfl, by have h := HA.out; (simp at h ⊢ <;> first | exact h | simp_all)⟩
          case measure => simp [intOf]
      · clear hk hk0
        cases b2 with
        | false =>
          go_wp2
          refine bodyPost_ret (v := .tuple #[.int .i64 3, .int .i64 11]) (by simp [results, Try.results36, go_sem]) rfl ⟨3, 11, rfl, ?_, HB.out⟩
          simp
        | true =>
          go_wp2
          go_round
          case rel => exact ⟨3, by omega, by omega, rfl, by have h := HA.out; (simp at h ⊢ <;> first | exact h | simp_all)⟩
          case measure => simp [intOf]
      · clear hk hk0
        cases b3 with
        | false =>
          go_wp2
          refine bodyPost_ret (v := .tuple #[.int .i64 4, .int .i64 11]) (by simp [results, Try.results36, go_sem]) rfl ⟨4, 11, rfl, ?_, HB.out⟩
          simp
        | true =>
          go_wp2
          go_round
          case rel => exact ⟨4, by omega, by omega, rfl, by have h := HA.out; (simp at h ⊢ <;> first | exact h | simp_all)⟩
          case measure => simp [intOf]
      · clear hk hk0
        cases b4 with
        | false =>
          go_wp2
          refine bodyPost_ret (v := .tuple #[.int .i64 5, .int .i64 11]) (by simp [results, Try.results36, go_sem]) rfl ⟨5, 11, rfl, ?_, HB.out⟩
          simp
        | true =>
          go_wp2
          go_round
          case rel => exact ⟨5, by omega, by omega, rfl, by have h := HA.out; (simp at h ⊢ <;> first | exact h | simp_all)⟩
          case measure => simp [intOf]
      · clear hk hk0
        cases b5 with
        | false =>
          go_wp2
          refine bodyPost_ret (v := .tuple #[.int .i64 6, .int .i64 11]) (by simp [results, Try.results36, go_sem]) rfl ⟨6, 11, rfl, ?_, HB.out⟩
          simp
        | true =>
          go_wp2
          go_round
          case rel => exact ⟨6, by omega, by omega, rfl, by have h := HA.out; (simp at h ⊢ <;> first | exact h | simp_all)⟩
          case measure => simp [intOf]
      · clear hk hk0
        cases b6 with
        | false =>
          go_wp2
          refine bodyPost_ret (v := .tuple #[.int .i64 7, .int .i64 11]) (by simp [results, Try.results36, go_sem]) rfl ⟨7, 11, rfl, ?_, HB.out⟩
          simp
        | true =>
          go_wp2
          go_round
          case rel => exact ⟨7, by omega, by omega, rfl, by have h := HA.out; (simp at h ⊢ <;> first | exact h | simp_all)⟩
          case measure => simp [intOf]
      · clear hk hk0
        cases b7 with
        | false =>
          go_wp2
          refine bodyPost_ret (v := .tuple #[.int .i64 8, .int .i64 11]) (by simp [results, Try.results36, go_sem]) rfl ⟨8, 11, rfl, ?_, HB.out⟩
          simp
        | true =>
          go_wp2
          go_round
          case rel => exact ⟨8, by omega, by omega, rfl, by have h := HA.out; (simp at h ⊢ <;> first | exact h | simp_all)⟩
          case measure => simp [intOf]
      · clear hk hk0
        cases b8 with
        | false =>
          go_wp2
          refine bodyPost_ret (v := .tuple #[.int .i64 9, .int .i64 11]) (by simp [results, Try.results36, go_sem]) rfl ⟨9, 11, rfl, ?_, HB.out⟩
          simp
        | true =>
          go_wp2
          go_round
          case rel => exact ⟨9, by omega, by omega, rfl, by have h := HA.out; (simp at h ⊢ <;> first | exact h | simp_all)⟩
          case measure => simp [intOf]
      · clear hk hk0
        cases b9 with
        | false =>
          go_wp2
          refine bodyPost_ret (v := .tuple #[.int .i64 10, .int .i64 11]) (by simp [results, Try.results36, go_sem]) rfl ⟨10, 11, rfl, ?_, HB.out⟩
          simp
        | true =>
          go_wp2
          go_round
          case rel => exact ⟨10, by omega, by omega, rfl, by have h := HA.out; (simp at h ⊢ <;> first | exact h | simp_all)⟩
          case measure => simp [intOf]
      · clear hk hk0
        cases b10 with
        | false =>
          go_wp2
          refine bodyPost_ret (v := .tuple #[.int .i64 11, .int .i64 11]) (by simp [results, Try.results36, go_sem]) rfl ⟨11, 11, rfl, ?_, HB.out⟩
          simp
        | true =>
          go_wp2
          go_round
          case rel => exact ⟨11, by omega, by omega, rfl, by have h := HA.out; (simp at h ⊢ <;> first | exact h | simp_all)⟩
          case measure => simp [intOf]
      · clear hk hk0
        cases b11 with
        | false =>
          go_wp2
          refine bodyPost_ret (v := .tuple #[.int .i64 12, .int .i64 11]) (by simp [results, Try.results36, go_sem]) rfl ⟨12, 11, rfl, ?_, HB.out⟩
          simp
        | true =>
          go_wp2
          go_round
          case rel => exact ⟨12, by omega, by omega, rfl, by have h := HA.out; (simp at h ⊢ <;> first | exact h | simp_all)⟩
          case measure => simp [intOf]
      · clear hk hk0
        go_wp2
        refine bodyPost_ret (v := .tuple #[.int .i64 0, .int .i64 0]) (by simp [results, Try.results36, go_sem]) rfl ⟨0, 0, rfl, ?_, HB.out⟩
        have h := HA.out
        (simp at h ⊢ <;> first | exact h | simp_all)

set_option maxRecDepth 100000 in
set_option maxHeartbeats 8000000 in
theorem check_ab (v d s u st s0 s1 s2 s3 p q r : Int) (w : World) (h3 : betw u 0 d = false) (h4 : betw st 0 2 = true) (h4' : (st != 2) = true) (bs : List Bool) (hbs : bs = [betw v 1 1048576, betw d 1 16, betw s 0 (wrap64 (16 - d)), false, true, stepB st s0 0 false, stepB st s1 s0 true, stepB st s2 s1 true, stepB st s3 s2 true, betw p 1 1048576, betw q 0 1048576, betw r 1 1048576]) :
    Calls Try.prog 36 #[.agg #[.int .i64 v, .int .i64 d, .int .i64 s, .int .i64 u, .int .i64 st, .int .i64 s0, .int .i64 s1, .int .i64 s2, .int .i64 s3, .int .i64 p, .int .i64 q, .int .i64 r]] w fun e w' => ∃ r x : Int, e = .returned (.tuple #[.int .i64 r, .int .i64 x]) ∧ (x == 0) = bs.all (fun b => b) ∧ Below w.heap.size w w' := by
  have HB := Aside0.mk (Below.refl w.heap.size w)
  have HS := Aside0.mk hbs
  clear hbs
  have k3 : ∀ w, Calls Try.prog 41 #[.int .i64 u, .int .i64 0, .int .i64 d] w fun e w' => e = .returned (.bool false) ∧ Over w w' := fun w => by have h := betw_o u 0 d w; rw [h3] at h; exact h
  have k4 : ∀ w, Calls Try.prog 41 #[.int .i64 st, .int .i64 0, .int .i64 2] w fun e w' => e = .returned (.bool true) ∧ Over w w' := fun w => by have h := betw_o st 0 2 w; rw [h4] at h; exact h
  have K3 := Aside0.mk k3
  have K4 := Aside0.mk k4
  clear k3 k4 h3 h4
  go_enter Try.func36, Try.ntmps36
  go_upto_region 1 with fail
  have D : IsBlk (w.alloc (.cells #[.int .i64 v, .int .i64 d, .int .i64 s, .int .i64 u, .int .i64 st, .int .i64 s0, .int .i64 s1, .int .i64 s2, .int .i64 s3, .int .i64 p, .int .i64 q, .int .i64 r] 24)) w.heap.size #[.int .i64 v, .int .i64 d, .int .i64 s, .int .i64 u, .int .i64 st, .int .i64 s0, .int .i64 s1, .int .i64 s2, .int .i64 s3, .int .i64 p, .int .i64 q, .int .i64 r] 24 := IsBlk.new _ _ rfl
  have D_0 := blk_cell D 0
  have D_1 := blk_cell D 1
  have D_2 := blk_cell D 2
  have D_3 := blk_cell D 3
  have D_4 := blk_cell D 4
  have D_5 := blk_cell D 5
  have D_6 := blk_cell D 6
  have D_7 := blk_cell D 7
  have D_8 := blk_cell D 8
  have D_9 := blk_cell D 9
  have D_10 := blk_cell D 10
  have D_11 := blk_cell D 11
  simp only [List.getElem?_toArray, List.getElem?_cons_zero, List.getElem?_cons_succ] at D_0 D_1 D_2 D_3 D_4 D_5 D_6 D_7 D_8 D_9 D_10 D_11
  have D_l := blk_lt D
  have HD := Aside0.mk D
  clear D
  have r_0 := cell_regrown D_0
  have r_1 := cell_regrown D_1
  have r_2 := cell_regrown D_2
  have r_3 := cell_regrown D_3
  have r_4 := cell_regrown D_4
  have r_5 := cell_regrown D_5
  have r_6 := cell_regrown D_6
  have r_7 := cell_regrown D_7
  have r_8 := cell_regrown D_8
  have r_9 := cell_regrown D_9
  have r_10 := cell_regrown D_10
  have r_11 := cell_regrown D_11
  clear D_0 D_1 D_2 D_3 D_4 D_5 D_6 D_7 D_8 D_9 D_10 D_11 D_l
  go_cut [4] (fun v4 wc => ∃ g : Nat, v4 = .pointer (some ⟨g, 0, none⟩) ∧ IsBlk wc g (bs.map Value.bool).toArray 70 ∧ Aside0 (Below w.heap.size w wc))
  case first =>
    refine wp_region_mild 60 (by kernel_rfl) (by kernel_rfl) _ _ (.cells #[.bool false, .bool false, .bool false, .bool false, .bool false, .bool false, .bool false, .bool false, .bool false, .bool false, .bool false, .bool false] 70) rfl rfl rfl ?hA ?_
    case hA =>
      intro K a w hK
      refine wpOp_step rfl (fun K' hK' => ?_)
      go_simp
      exact hK' _ _ hK
    intro Lq HLq
    simp only [List.take_succ_cons, List.take_zero]
    repeat (
      refine WM_step ?_
      intro K hK
      go_simp
      first
        | (refine hK _ ?_; clear hK K)
        | (apply Exists.intro
           refine ⟨fun dq os => ?_, hK _ ?_⟩
           (first | (go_at_call 41; with_reducible exact K3.out _) | (go_at_call 41; with_reducible exact K4.out _) | (go_at_call 41; with_reducible exact betw_o _ _ _ _) | (go_at_call 42; first | with_reducible exact step0_o _ _ _ _ _ _ _ _ _ _ _ _ _ | with_reducible exact step1_o _ _ _ _ _ _ _ _ _ _ _ _ _ | with_reducible exact step2_o _ _ _ _ _ _ _ _ _ _ _ _ _ | with_reducible exact step3_o _ _ _ _ _ _ _ _ _ _ _ _ _))
           clear hK K))
    refine WM_nil (HLq.out _ ?_)
    intro g w' hb hg hob
    have E : IsBlk w' g #[.bool false, .bool false, .bool false, .bool false, .bool false, .bool false, .bool false, .bool false, .bool false, .bool false, .bool false, .bool false] 70 := hob
    have E_0 := blk_cell E 0
    have E_1 := blk_cell E 1
    have E_2 := blk_cell E 2
    have E_3 := blk_cell E 3
    have E_4 := blk_cell E 4
    have E_5 := blk_cell E 5
    have E_6 := blk_cell E 6
    have E_7 := blk_cell E 7
    have E_8 := blk_cell E 8
    have E_9 := blk_cell E 9
    have E_10 := blk_cell E 10
    have E_11 := blk_cell E 11
    simp only [List.getElem?_toArray, List.getElem?_cons_zero, List.getElem?_cons_succ] at E_0 E_1 E_2 E_3 E_4 E_5 E_6 E_7 E_8 E_9 E_10 E_11
    have E_z0 := blk_frozen E 0
    have E_z1 := blk_frozen E 1
    have E_z2 := blk_frozen E 2
    have E_z3 := blk_frozen E 3
    have E_z4 := blk_frozen E 4
    have E_z5 := blk_frozen E 5
    have E_z6 := blk_frozen E 6
    have E_z7 := blk_frozen E 7
    have E_z8 := blk_frozen E 8
    have E_z9 := blk_frozen E 9
    have E_z10 := blk_frozen E 10
    have E_z11 := blk_frozen E 11
    have E_l := blk_lt E
    have HE := Aside0.mk E
    clear E
    have hB := Aside0.mk (below_step (by repeat (first | (with_reducible first | exact HB.out | apply below_alloc | apply pw_below_drewN | apply below_drew1) | refine below_set ?_ (by omega))) hb)
    have hg1 : w.heap.size ≤ g := Nat.le_trans (Nat.le_of_lt (by simp)) hg
    clear hob hb hg
    go_wp2_with fail
    go_meet
    refine ⟨g, rfl, ?_, ⟨?_⟩⟩
    · rw [HS.out]
      simp only [List.map_cons, List.map_nil]
      exact blk12 HE.out _ _ _ _ _ _ _ _ _ _ _ _
    · repeat (first | (with_reducible exact hB.out) | refine below_set ?_ (by omega))
  case rest =>
    obtain ⟨b0, b1, b2, b3, b4, b5, b6, b7, b8, b9, b10, b11, rfl⟩ : ∃ b0 b1 b2 b3 b4 b5 b6 b7 b8 b9 b10 b11, bs = [b0, b1, b2, b3, b4, b5, b6, b7, b8, b9, b10, b11] := ⟨_, _, _, _, _, _, _, _, _, _, _, _, HS.out⟩
    clear HS r_0 r_1 r_2 r_3 r_4 r_5 r_6 r_7 r_8 r_9 r_10 r_11 HD HB K3 K4 h4'
    obtain ⟨g, rfl, E, HB⟩ := hcut
    simp only [List.map_cons, List.map_nil] at E
    have E_0 := blk_cell E 0
    have E_1 := blk_cell E 1
    have E_2 := blk_cell E 2
    have E_3 := blk_cell E 3
    have E_4 := blk_cell E 4
    have E_5 := blk_cell E 5
    have E_6 := blk_cell E 6
    have E_7 := blk_cell E 7
    have E_8 := blk_cell E 8
    have E_9 := blk_cell E 9
    have E_10 := blk_cell E 10
    have E_11 := blk_cell E 11
    simp only [List.getElem?_toArray, List.getElem?_cons_zero, List.getElem?_cons_succ] at E_0 E_1 E_2 E_3 E_4 E_5 E_6 E_7 E_8 E_9 E_10 E_11
    have E_z0 := blk_frozen E 0
    have E_z1 := blk_frozen E 1
    have E_z2 := blk_frozen E 2
    have E_z3 := blk_frozen E 3
    have E_z4 := blk_frozen E 4
    have E_z5 := blk_frozen E 5
    have E_z6 := blk_frozen E 6
    have E_z7 := blk_frozen E 7
    have E_z8 := blk_frozen E 8
    have E_z9 := blk_frozen E 9
    have E_z10 := blk_frozen E 10
    have E_z11 := blk_frozen E 11
    have E_l := blk_lt E
    have HE := Aside0.mk E
    clear E
    go_wp2
    go_loop [68] (fun v => ∃ k : Int, 0 ≤ k ∧ k ≤ 12 ∧ v = .int .i64 k ∧ (([b0, b1, b2, b3, b4, b5, b6, b7, b8, b9, b10, b11].take k.toNat).all (fun b => b)) = true) (fun v => 12 - (intOf v).toNat)
    case atStart => exact ⟨0, by omega, by omega, rfl, rfl⟩
    case round =>
      obtain ⟨k, hk0, hk, rfl, hall⟩ := hrel
      have HA := Aside0.mk hall
      clear hall
      rcases (by omega : k = 0 ∨ k = 1 ∨ k = 2 ∨ k = 3 ∨ k = 4 ∨ k = 5 ∨ k = 6 ∨ k = 7 ∨ k = 8 ∨ k = 9 ∨ k = 10 ∨ k = 11 ∨ k = 12) with rfl | rfl | rfl | rfl | rfl | rfl | rfl | rfl | rfl | rfl | rfl | rfl | rfl
      · clear hk hk0
        cases b0 with
        | false =>
          go_wp2
          refine bodyPost_ret (v := .tuple #[.int .i64 1, .int .i64 11]) (by simp [results, Try.results36, go_sem]) rfl ⟨1, 11, rfl, ?_, HB.out⟩
          simp
        | true =>
          go_wp2
          go_round
          case rel => exact ⟨1, by omega, by omega, rfl, by have h := HA.out; (simp at h ⊢ <;> first | exact h | simp_all)⟩
          case measure => simp [intOf]
      · clear hk hk0
        cases b1 with
        | false =>
          go_wp2
          refine bodyPost_ret (v := .tuple #[.int .i64 2, .int .i64 11]) (by simp [results, Try.results36, go_sem]) rfl ⟨2, 11, rfl, ?_, HB.out⟩
          simp
        | true =>
          go_wp2
          go_round
          case rel => exact ⟨2, by omega, by omega, rfl, by have h := HA.out; (simp at h ⊢ <;> first | exact h | simp_all)⟩
          case measure => simp [intOf]
      · clear hk hk0
        cases b2 with
        | false =>
          go_wp2
          refine bodyPost_ret (v := .tuple #[.int .i64 3, .int .i64 11]) (by simp [results, Try.results36, go_sem]) rfl ⟨3, 11, rfl, ?_, HB.out⟩
          simp
        | true =>
          go_wp2
          go_round
          case rel => exact ⟨3, by omega, by omega, rfl, by have h := HA.out; (simp at h ⊢ <;> first | exact h | simp_all)⟩
          case measure => simp [intOf]
      · clear hk hk0
        cases b3 with
        | false =>
          go_wp2
          refine bodyPost_ret (v := .tuple #[.int .i64 4, .int .i64 11]) (by simp [results, Try.results36, go_sem]) rfl ⟨4, 11, rfl, ?_, HB.out⟩
          simp
        | true =>
          go_wp2
          go_round
          case rel => exact ⟨4, by omega, by omega, rfl, by have h := HA.out; (simp at h ⊢ <;> first | exact h | simp_all)⟩
          case measure => simp [intOf]
      · clear hk hk0
        cases b4 with
        | false =>
          go_wp2
          refine bodyPost_ret (v := .tuple #[.int .i64 5, .int .i64 11]) (by simp [results, Try.results36, go_sem]) rfl ⟨5, 11, rfl, ?_, HB.out⟩
          simp
        | true =>
          go_wp2
          go_round
          case rel => exact ⟨5, by omega, by omega, rfl, by have h := HA.out; (simp at h ⊢ <;> first | exact h | simp_all)⟩
          case measure => simp [intOf]
      · clear hk hk0
        cases b5 with
        | false =>
          go_wp2
          refine bodyPost_ret (v := .tuple #[.int .i64 6, .int .i64 11]) (by simp [results, Try.results36, go_sem]) rfl ⟨6, 11, rfl, ?_, HB.out⟩
          simp
        | true =>
          go_wp2
          go_round
          case rel => exact ⟨6, by omega, by omega, rfl, by have h := HA.out; (simp at h ⊢ <;> first | exact h | simp_all)⟩
          case measure => simp [intOf]
      · clear hk hk0
        cases b6 with
        | false =>
          go_wp2
          refine bodyPost_ret (v := .tuple #[.int .i64 7, .int .i64 11]) (by simp [results, Try.results36, go_sem]) rfl ⟨7, 11, rfl, ?_, HB.out⟩
          simp
        | true =>
          go_wp2
          go_round
          case rel => exact ⟨7, by omega, by omega, rfl, by have h := HA.out; (simp at h ⊢ <;> first | exact h | simp_all)⟩
          case measure => simp [intOf]
      · clear hk hk0
        cases b7 with
        | false =>
          go_wp2
          refine bodyPost_ret (v := .tuple #[.int .i64 8, .int .i64 11]) (by simp [results, Try.results36, go_sem]) rfl ⟨8, 11, rfl, ?_, HB.out⟩
          simp
        | true =>
          go_wp2
          go_round
          case rel => exact ⟨8, by omega, by omega, rfl, by have h := HA.out; (simp at h ⊢ <;> first | exact h | simp_all)⟩
          case measure => simp [intOf]
      · clear hk hk0
        cases b8 with
        | false =>
          go_wp2
          refine bodyPost_ret (v := .tuple #[.int .i64 9, .int .i64 11]) (by simp [results, Try.results36, go_sem]) rfl ⟨9, 11, rfl, ?_, HB.out⟩
          simp
        | true =>
          go_wp2
          go_round
          case rel => exact ⟨9, by omega, by omega, rfl, by have h := HA.out; (simp at h ⊢ <;> first | exact h | simp_all)⟩
          case measure => simp [intOf]
      · clear hk hk0
        cases b9 with
        | false =>
          go_wp2
          refine bodyPost_ret (v := .tuple #[.int .i64 10, .int .i64 11]) (by simp [results, Try.results36, go_sem]) rfl ⟨10, 11, rfl, ?_, HB.out⟩
          simp
        | true =>
          go_wp2
          go_round
          case rel => exact ⟨10, by omega, by omega, rfl, by have h := HA.out; (simp at h ⊢ <;> first | exact h | simp_all)⟩
          case measure => simp [intOf]
      · clear hk hk0
        cases b10 with
        | false =>
          go_wp2
          refine bodyPost_ret (v := .tuple #[.int .i64 11, .int .i64 11]) (by simp [results, Try.results36, go_sem]) rfl ⟨11, 11, rfl, ?_, HB.out⟩
          simp
        | true =>
          go_wp2
          go_round
          case rel => exact ⟨11, by omega, by omega, rfl, by have h := HA.out; (simp at h ⊢ <;> first | exact h | simp_all)⟩
          case measure => simp [intOf]
      · clear hk hk0
        cases b11 with
        | false =>
          go_wp2
          refine bodyPost_ret (v := .tuple #[.int .i64 12, .int .i64 11]) (by simp [results, Try.results36, go_sem]) rfl ⟨12, 11, rfl, ?_, HB.out⟩
          simp
        | true =>
          go_wp2
          go_round
          case rel => exact ⟨12, by omega, by omega, rfl, by have h := HA.out; (simp at h ⊢ <;> first | exact h | simp_all)⟩
          case measure => simp [intOf]
      · clear hk hk0
        go_wp2
        refine bodyPost_ret (v := .tuple #[.int .i64 0, .int .i64 0]) (by simp [results, Try.results36, go_sem]) rfl ⟨0, 0, rfl, ?_, HB.out⟩
        have h := HA.out
        (simp at h ⊢ <;> first | exact h | simp_all)
end Go.Proofs.Ytloljhopccpeeaa.B1a
