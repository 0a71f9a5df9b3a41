/-
  Proved here: what pacesetterlaw18.BatchRises returns, whatever the input: true. No condition.
-/
import Derived.Test.YtfnpepfabbgpfaaB4
import Derived.Test.YtfnpepfabbgpfaaB5
import Derived.Deep.QuietTactic
import Derived.BigQuiet
namespace Go.Proofs.Ytfnpepfabbgpfaa.WalkBatchRises
open Go.RowKit Go.Proofs.Ytfnpepfabbgpfaa.B0 Go.Proofs.Ytfnpepfabbgpfaa.B1 Go.Proofs.Ytfnpepfabbgpfaa.B1z Go.Proofs.Ytfnpepfabbgpfaa.B2 Go.Proofs.Ytfnpepfabbgpfaa.B3 Go.Proofs.Ytfnpepfabbgpfaa.B5 Go.Proofs.YtfnpepfabbgpfaaW.PrintWords Go.Proofs.YtfnpepfabbgpfaaW.PrintLast Go.Proofs.YtfnpepfabbgpfaaW.PrintMore
set_option linter.unusedVariables false
set_option linter.unusedSimpArgs false
attribute [local go_sem] max2_int min2_int max_two min_two

set_option maxRecDepth 100000 in
set_option maxHeartbeats 8000000 in
theorem walk (v d s u st s0 s1 s2 s3 p q r : Int) (w : World) : Calls Try.prog 3 #[.agg #[.int .i64 v, .int .i64 d, .int .i64 s, .int .i64 u, .int .i64 st, .int .i64 s0, .int .i64 s1, .int .i64 s2, .int .i64 s3, .int .i64 p, .int .i64 q, .int .i64 r]] w fun e w' => e = .returned (.bool true) ∧ Below w.heap.size w w' := by
  have HB := Aside0.mk (Below.refl w.heap.size w)
  go_enter Try.func3, Try.ntmps3
  go_wp2_with fail
  refine (B4.lives_q _).mono ?_
  rintro e w1 ⟨rfl, hb1⟩
  have D : IsBlk w1 (w.heap.size) #[.int .i64 v, .int .i64 d, .int .i64 s, .int .i64 u, .int .i64 st, .int .i64 s0, .int .i64 s1, .int .i64 s2, .int .i64 s3, .int .i64 p, .int .i64 q, .int .i64 r] 24 := IsBlk.below (by repeat (first | ((refine IsBlk.new _ _ ?_); (simp; done)) | apply IsBlk.alloc | apply IsBlk.drewN)) hb1
  have D_0 := blk_cell D 0
  have D_1 := blk_cell D 1
  have D_2 := blk_cell D 2
  have D_3 := blk_cell D 3
  have D_4 := blk_cell D 4
  have D_5 := blk_cell D 5
  have D_6 := blk_cell D 6
  have D_7 := blk_cell D 7
  have D_8 := blk_cell D 8
  have D_9 := blk_cell D 9
  have D_10 := blk_cell D 10
  have D_11 := blk_cell D 11
  simp only [List.getElem?_toArray, List.getElem?_cons_zero, List.getElem?_cons_succ] at D_0 D_1 D_2 D_3 D_4 D_5 D_6 D_7 D_8 D_9 D_10 D_11
  have D_l := blk_lt D
  have HD := Aside0.mk D
  clear D
  have n0 := Aside0.mk (below_step (by repeat (first | (with_reducible first | exact HB.out | apply below_alloc | apply pw_below_drewN | apply below_drew1) | refine below_set ?_ (by omega))) hb1)
  clear HB hb1
  have HB := n0
  clear n0
  go_wp2_with fail
  refine (good_q v d s u st s0 s1 s2 s3 p q r _).mono ?_
  rintro e w2 ⟨y0, y1, y2, y3, y4, y5, y6, y7, y8, y9, y10, y11, rfl, hM, hb1⟩
  have hr := rises hM
  have hd := hM.m_d
  have HM := Aside0.mk hM
  clear hM
  clear D_0 D_1 D_2 D_3 D_4 D_5 D_6 D_7 D_8 D_9 D_10 D_11 D_l HD
  have n0 := Aside0.mk (below_step (by repeat (first | (with_reducible first | exact HB.out | apply below_alloc | apply pw_below_drewN | apply below_drew1) | refine below_set ?_ (by omega))) hb1)
  clear HB hb1
  have HB := n0
  clear n0
  obtain ⟨l, hl⟩ : ∃ l, targetsL y0 y1 y2 y3 y4 y5 y6 y7 y8 y9 y10 y11 = l := ⟨_, rfl⟩
  rw [hl] at hr
  have HR_ := Aside0.mk hr
  clear hr
  have HL := Aside0.mk hl
  clear hl
  go_wp2_with fail
  refine (targets_q y0 y1 y2 y3 y4 y5 y6 y7 y8 y9 y10 y11 _).mono ?_
  rw [HL.out]
  rintro e w3 ⟨vv, rfl, hR, hb1⟩
  have G : IsBlk w3 (w2.heap.size) #[.int .i64 y0, .int .i64 y1, .int .i64 y2, .int .i64 y3, .int .i64 y4, .int .i64 y5, .int .i64 y6, .int .i64 y7, .int .i64 y8, .int .i64 y9, .int .i64 y10, .int .i64 y11] 24 := IsBlk.below (by repeat (first | ((refine IsBlk.new _ _ ?_); (simp; done)) | apply IsBlk.alloc | apply IsBlk.drewN)) hb1
  have G_0 := blk_cell G 0
  have G_1 := blk_cell G 1
  have G_2 := blk_cell G 2
  have G_3 := blk_cell G 3
  have G_4 := blk_cell G 4
  have G_5 := blk_cell G 5
  have G_6 := blk_cell G 6
  have G_7 := blk_cell G 7
  have G_8 := blk_cell G 8
  have G_9 := blk_cell G 9
  have G_10 := blk_cell G 10
  have G_11 := blk_cell G 11
  simp only [List.getElem?_toArray, List.getElem?_cons_zero, List.getElem?_cons_succ] at G_0 G_1 G_2 G_3 G_4 G_5 G_6 G_7 G_8 G_9 G_10 G_11
  have G_l := blk_lt G
  have HG := Aside0.mk G
  clear G
  have n0 := Aside0.mk (below_step (by repeat (first | (with_reducible first | exact HB.out | apply below_alloc | apply pw_below_drewN | apply below_drew1) | refine below_set ?_ (by omega))) hb1)
  clear HB hb1
  have HB := n0
  clear n0
  obtain ⟨A1, c1, rfl, hlc, _⟩ := Kd.R_reads hR
  have HR := Aside0.mk hR
  clear hR
  obtain ⟨m, hlen, hm4, hlast, hall⟩ := HR_.out
  clear HR_ HL HM
  obtain ⟨rb, ro, rfl, hrb, cm⟩ := row_at HR.out m (by omega)
  obtain ⟨rb', ro', e_, hrb', c0⟩ := row_at HR.out 0 (by omega)
  cases e_
  rw [hlast] at cm
  rw [Nat.add_zero] at c0
  have h00 := (hall 0 (by omega)).1
  rw [hlen] at HR hlc ⊢
  obtain ⟨a0, ha0⟩ : ∃ a, l.getD 0 0 = a := ⟨_, rfl⟩
  rw [ha0] at c0 h00
  have HA0 := Aside0.mk ha0
  have HALL := Aside0.mk hall
  have HLEN := Aside0.mk hlen
  clear ha0 hall hlast hlen
  have t1 : decide ((m : Int) + 1 < 1) = false := by simp; omega
  have t2 : decide (a0 < 1) = false := by simp; omega
  have q1 : IntKind.i64.wrap ((m : Int) + 1 - 1) = (m : Int) := by rw [i64_wrap64]; rw [wrap64_eq (by omega) (by omega)]; omega
  have q2 : (0 : Int) ≤ (m : Int) := by omega
  have q3 : (m : Int) < (m : Int) + 1 := by omega
  have q4 : (0 : Int) < (m : Int) + 1 := by omega
  go_wp2_with fail
  go_quiet (fail)
  go_wp2_with fail
  clear c0 cm t1 t2 q1 q4 hrb hrb'
  go_loopw [5] (fun i wr => ∃ k : Nat, i = .int .i64 k ∧ k ≤ m + 1 ∧ Aside0 (IsBlk wr w2.heap.size #[.int .i64 y0, .int .i64 y1, .int .i64 y2, .int .i64 y3, .int .i64 y4, .int .i64 y5, .int .i64 y6, .int .i64 y7, .int .i64 y8, .int .i64 y9, .int .i64 y10, .int .i64 y11] 24) ∧ Aside0 (RowI wr 0 (.slice (some ⟨rb, ro, none⟩) (m + 1) c1) l) ∧ Aside0 (Below w.heap.size w wr)) (fun i _ => m + 1 - (intOf i).toNat)
  case atStart => exact ⟨0, rfl, by omega, ⟨(by repeat (with_reducible first | exact HG.out | apply IsBlk.alloc | apply IsBlk.drewN | apply IsBlk.drew))⟩, ⟨Kd.R_lower (by (with_reducible repeat (first | apply Kd.R_alloc | apply Kd.R_drewN | apply Kd.R_drew)); exact HR.out) (Nat.zero_le _)⟩, ⟨by repeat (first | (with_reducible first | exact HB.out | apply below_alloc | apply pw_below_drewN | apply below_drew1) | refine below_set ?_ (by omega))⟩⟩
  case round =>
    clear G_0 G_1 G_2 G_3 G_4 G_5 G_6 G_7 G_8 G_9 G_10 G_11 G_l HG
    clear HR HB
    obtain ⟨k, rfl, hk, HG0, HR, HB⟩ := hrel
    have G := HG0.out
    clear HG0
    have G_0 := blk_cell G 0
    have G_1 := blk_cell G 1
    have G_2 := blk_cell G 2
    have G_3 := blk_cell G 3
    have G_4 := blk_cell G 4
    have G_5 := blk_cell G 5
    have G_6 := blk_cell G 6
    have G_7 := blk_cell G 7
    have G_8 := blk_cell G 8
    have G_9 := blk_cell G 9
    have G_10 := blk_cell G 10
    have G_11 := blk_cell G 11
    simp only [List.getElem?_toArray, List.getElem?_cons_zero, List.getElem?_cons_succ] at G_0 G_1 G_2 G_3 G_4 G_5 G_6 G_7 G_8 G_9 G_10 G_11
    have G_l := blk_lt G
    have HG := Aside0.mk G
    clear G
    by_cases hlt : k < m + 1
    · have hi1 : decide ((k : Int) < (m : Int) + 1) = true := by simp; omega
      have hki : (k : Int) < (m : Int) + 1 := by omega
      obtain ⟨hb1, hb2, hup, hsteps⟩ := HALL.out k (by omega)
      obtain ⟨rb2, ro2, e_, hrb2, ck⟩ := row_at HR.out k (by have := HLEN.out; omega)
      cases e_
      obtain ⟨b, hb⟩ : ∃ b, l.getD k 0 = b := ⟨_, rfl⟩
      rw [hb] at ck hb1 hb2 hup hsteps
      have hb_in : 1 ≤ b ∧ b ≤ y1 := ⟨hb1, hb2⟩
      clear hb hb1 hb2
      by_cases hk0 : k = 0
      · have HK0 := Aside0.mk hk0
        clear hk0
        by_cases hkm : k < m
        · have hk1 : decide (0 < (k : Int)) = false := by have := HK0.out; simp; omega
          have hk2 : decide ((k : Int) < (m : Int)) = true := by simp; omega
          have hk1n : decide (0 < k) = false := by have := HK0.out; simp; omega
          have hk2n : decide (k < m) = true := by simp; omega
          have t2 : decide (y1 < b) = false := by simp; omega
          have hst := hsteps (by omega)
          obtain ⟨x, hx⟩ : ∃ x, [y5, y6, y7, y8].getD k 0 = x := ⟨_, rfl⟩
          rw [hx] at hst
          have cx : wr.cell? ⟨w2.heap.size, 5 + k, none⟩ = some (.int .i64 x) := by
            rcases (by omega : k = 0 ∨ k = 1 ∨ k = 2 ∨ k = 3) with rfl | rfl | rfl | rfl <;> (first | (rw [← hx]; simpa using G_5) | (rw [← hx]; simpa using G_6) | (rw [← hx]; simpa using G_7) | (rw [← hx]; simpa using G_8))
          obtain ⟨z, hz⟩ : ∃ z, x * y1 = z := ⟨_, rfl⟩
          rw [hz] at hst
          have m1 : IntKind.i64.wrap (100 * b) = 100 * b := by rw [i64_wrap64]; exact wrap64_eq (by omega) (by omega)
          have m2 : IntKind.i64.wrap (x * y1) = z := by rw [hz, i64_wrap64]; exact wrap64_eq (by omega) (by omega)
          have m3 : IntKind.i64.wrap (b - 1) = b - 1 := by rw [i64_wrap64]; exact wrap64_eq (by omega) (by omega)
          have m4 : IntKind.i64.wrap (100 * (b - 1)) = 100 * (b - 1) := by rw [i64_wrap64]; exact wrap64_eq (by omega) (by omega)
          have t3 : decide (100 * b < z) = false := by simp; omega
          have t4 : decide (z ≤ 100 * (b - 1)) = false := by simp; omega
          have hk4 : (k : Int) < 4 := by omega
          clear hx hz hst
          clear hup hsteps hb_in
          go_wp2_with fail
          go_quiet (fail)
          go_wp2
          go_roundw
          case rel => exact ⟨k + 1, by go_num, by omega, ⟨(by repeat (with_reducible first | exact HG.out | apply IsBlk.alloc | apply IsBlk.drewN | apply IsBlk.drew))⟩, ⟨(by (with_reducible repeat (first | apply Kd.R_alloc | apply Kd.R_drewN | apply Kd.R_drew)); exact HR.out)⟩, ⟨by repeat (first | (with_reducible first | exact HB.out | apply below_alloc | apply pw_below_drewN | apply below_drew1) | refine below_set ?_ (by omega))⟩⟩
          case measure => simp [intOf]; omega
        · have hk1 : decide (0 < (k : Int)) = false := by have := HK0.out; simp; omega
          have hk2 : decide ((k : Int) < (m : Int)) = false := by simp; omega
          have hk1n : decide (0 < k) = false := by have := HK0.out; simp; omega
          have hk2n : decide (k < m) = false := by simp; omega
          have t2 : decide (y1 < b) = false := by simp; omega
          clear hup hsteps hb_in
          go_wp2_with fail
          go_quiet (fail)
          go_wp2
          go_roundw
          case rel => exact ⟨k + 1, by go_num, by omega, ⟨(by repeat (with_reducible first | exact HG.out | apply IsBlk.alloc | apply IsBlk.drewN | apply IsBlk.drew))⟩, ⟨(by (with_reducible repeat (first | apply Kd.R_alloc | apply Kd.R_drewN | apply Kd.R_drew)); exact HR.out)⟩, ⟨by repeat (first | (with_reducible first | exact HB.out | apply below_alloc | apply pw_below_drewN | apply below_drew1) | refine below_set ?_ (by omega))⟩⟩
          case measure => simp [intOf]; omega
      · obtain ⟨rb3, ro3, e_, hrb3, cj⟩ := row_at HR.out (k - 1) (by have := HLEN.out; omega)
        cases e_
        obtain ⟨b', hb'⟩ : ∃ b, l.getD (k - 1) 0 = b := ⟨_, rfl⟩
        rw [hb'] at cj hup
        clear hb'
        by_cases hkm : k < m
        · have hk1 : decide (0 < (k : Int)) = true := by simp; omega
          have hk2 : decide ((k : Int) < (m : Int)) = true := by simp; omega
          have hk1n : decide (0 < k) = true := by simp; omega
          have hk2n : decide (k < m) = true := by simp; omega
          have hj : IntKind.i64.wrap ((k : Int) - 1) = (k : Int) - 1 := by rw [i64_wrap64]; exact wrap64_eq (by omega) (by omega)
          have hj0 : (0 : Int) ≤ (k : Int) - 1 := by omega
          have hj1 : (k : Int) - 1 < (m : Int) + 1 := by omega
          have hj2 : ((k : Int) - 1).toNat = k - 1 := by omega
          have t1 : decide (b < b') = false := by have := hup (by omega); simp; omega
          have t2 : decide (y1 < b) = false := by simp; omega
          have hst := hsteps (by omega)
          obtain ⟨x, hx⟩ : ∃ x, [y5, y6, y7, y8].getD k 0 = x := ⟨_, rfl⟩
          rw [hx] at hst
          have cx : wr.cell? ⟨w2.heap.size, 5 + k, none⟩ = some (.int .i64 x) := by
            rcases (by omega : k = 0 ∨ k = 1 ∨ k = 2 ∨ k = 3) with rfl | rfl | rfl | rfl <;> (first | (rw [← hx]; simpa using G_5) | (rw [← hx]; simpa using G_6) | (rw [← hx]; simpa using G_7) | (rw [← hx]; simpa using G_8))
          obtain ⟨z, hz⟩ : ∃ z, x * y1 = z := ⟨_, rfl⟩
          rw [hz] at hst
          have m1 : IntKind.i64.wrap (100 * b) = 100 * b := by rw [i64_wrap64]; exact wrap64_eq (by omega) (by omega)
          have m2 : IntKind.i64.wrap (x * y1) = z := by rw [hz, i64_wrap64]; exact wrap64_eq (by omega) (by omega)
          have m3 : IntKind.i64.wrap (b - 1) = b - 1 := by rw [i64_wrap64]; exact wrap64_eq (by omega) (by omega)
          have m4 : IntKind.i64.wrap (100 * (b - 1)) = 100 * (b - 1) := by rw [i64_wrap64]; exact wrap64_eq (by omega) (by omega)
          have t3 : decide (100 * b < z) = false := by simp; omega
          have t4 : decide (z ≤ 100 * (b - 1)) = false := by simp; omega
          have hk4 : (k : Int) < 4 := by omega
          clear hx hz hst
          clear hup hsteps hb_in
          go_wp2_with fail
          go_quiet (fail)
          go_wp2
          go_roundw
          case rel => exact ⟨k + 1, by go_num, by omega, ⟨(by repeat (with_reducible first | exact HG.out | apply IsBlk.alloc | apply IsBlk.drewN | apply IsBlk.drew))⟩, ⟨(by (with_reducible repeat (first | apply Kd.R_alloc | apply Kd.R_drewN | apply Kd.R_drew)); exact HR.out)⟩, ⟨by repeat (first | (with_reducible first | exact HB.out | apply below_alloc | apply pw_below_drewN | apply below_drew1) | refine below_set ?_ (by omega))⟩⟩
          case measure => simp [intOf]; omega
        · have hk1 : decide (0 < (k : Int)) = true := by simp; omega
          have hk2 : decide ((k : Int) < (m : Int)) = false := by simp; omega
          have hk1n : decide (0 < k) = true := by simp; omega
          have hk2n : decide (k < m) = false := by simp; omega
          have hj : IntKind.i64.wrap ((k : Int) - 1) = (k : Int) - 1 := by rw [i64_wrap64]; exact wrap64_eq (by omega) (by omega)
          have hj0 : (0 : Int) ≤ (k : Int) - 1 := by omega
          have hj1 : (k : Int) - 1 < (m : Int) + 1 := by omega
          have hj2 : ((k : Int) - 1).toNat = k - 1 := by omega
          have t1 : decide (b < b') = false := by have := hup (by omega); simp; omega
          have t2 : decide (y1 < b) = false := by simp; omega
          clear hup hsteps hb_in
          go_wp2_with fail
          go_quiet (fail)
          go_wp2
          go_roundw
          case rel => exact ⟨k + 1, by go_num, by omega, ⟨(by repeat (with_reducible first | exact HG.out | apply IsBlk.alloc | apply IsBlk.drewN | apply IsBlk.drew))⟩, ⟨(by (with_reducible repeat (first | apply Kd.R_alloc | apply Kd.R_drewN | apply Kd.R_drew)); exact HR.out)⟩, ⟨by repeat (first | (with_reducible first | exact HB.out | apply below_alloc | apply pw_below_drewN | apply below_drew1) | refine below_set ?_ (by omega))⟩⟩
          case measure => simp [intOf]; omega
    · have hi1 : decide ((k : Int) < (m : Int) + 1) = false := by simp; omega
      go_wp2
      go_ret
      exact ⟨rfl, by repeat (first | (with_reducible first | exact HB.out | apply below_alloc | apply pw_below_drewN | apply below_drew1) | refine below_set ?_ (by omega))⟩
end Go.Proofs.Ytfnpepfabbgpfaa.WalkBatchRises
