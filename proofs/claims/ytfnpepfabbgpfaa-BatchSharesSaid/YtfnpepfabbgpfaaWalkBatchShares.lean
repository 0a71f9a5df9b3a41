/-
  Proved here: what pacesetterlaw18.BatchShares returns, whatever the input: true. No condition.
-/
import Derived.Test.YtfnpepfabbgpfaaB7
import Derived.Test.YtfnpepfabbgpfaaB5
namespace Go.Proofs.Ytfnpepfabbgpfaa.WalkBatchShares
open Go.RowKit Go.Proofs.Ytfnpepfabbgpfaa.B0 Go.Proofs.Ytfnpepfabbgpfaa.B1 Go.Proofs.Ytfnpepfabbgpfaa.B1z Go.Proofs.Ytfnpepfabbgpfaa.B2 Go.Proofs.Ytfnpepfabbgpfaa.B3 Go.Proofs.Ytfnpepfabbgpfaa.B5 Go.Proofs.Ytfnpepfabbgpfaa.B7 Go.Proofs.YtfnpepfabbgpfaaW.PrintWords Go.Proofs.YtfnpepfabbgpfaaW.PrintLast Go.Proofs.YtfnpepfabbgpfaaW.PrintMore
set_option linter.unusedVariables false
set_option linter.unusedSimpArgs false
attribute [local go_sem] max2_int min2_int max_two min_two

theorem raw_mod (n k : Int) (hk : 0 < k) (hk' : k ≤ 1073741824) : wrap64 ((IntKind.u64.wrap n).tmod k) = (n % 18446744073709551616) % k := by
  rw [u64_wrap, Int.tmod_eq_emod_of_nonneg (Int.emod_nonneg _ (by decide))]
  have h1 := Int.emod_nonneg (n % 18446744073709551616) (by omega : k ≠ 0)
  have h2 := Int.emod_lt_of_pos (n % 18446744073709551616) hk
  exact wrap64_eq (by omega) (by omega)
/-- The sum of the first i shares. -/
def S (l : List Int) (i : Nat) : Int := if i = 0 then 0 else l.getD (i - 1) 0
/-- What the law asks of the shares up to a stage j. -/
def Sh (l L : List Int) (t : Int) (j : Nat) : Prop :=
  (t = 0 ∧ L = [] ∧ l.length ≤ j) ∨ (j < l.length ∧ L.length = j + 1 ∧ t = S l (j + 1) ∧ ∀ i, i ≤ j → 0 ≤ L.getD i 0 ∧ 0 ≤ S l i ∧ S l i ≤ 5 ∧ L.getD i 0 ≤ 5 ∧ S l i + L.getD i 0 = S l (i + 1))
theorem shares {v d s u st s0 s1 s2 s3 p q r : Int} (h : Made v d s u st s0 s1 s2 s3 p q r) (j : Nat) : Sh (targetsL v d s u st s0 s1 s2 s3 p q r) (shareL v d s u st s0 s1 s2 s3 p q r j) (targetV v d s u st s0 s1 s2 s3 p q r j) j := by
  obtain ⟨m, hl, hm, _, hall⟩ := rises h
  have hd := h.m_d
  unfold shareL targetV
  generalize targetsL v d s u st s0 s1 s2 s3 p q r = l at *
  by_cases hj : j < l.length
  · have e : (if 0 ≤ (j : Int) ∧ (j : Int) < (l.length : Int) then l.getD (j : Int).toNat 0 else 0) = l.getD j 0 := by rw [if_pos (by omega)]; simp
    have hp := (hall j (by omega)).1
    have e0 : (l.getD j 0 == 0) = false := by rw [beq_eq_false_iff_ne]; omega
    rw [e, e0, if_neg (by decide), Int.toNat_natCast]
    refine .inr ⟨hj, by rw [dif_len, List.length_take]; omega, by simp [S], fun i hi => ?_⟩
    have ha := hall i (by omega)
    have hlt : (l.take (j + 1)).length = j + 1 := by rw [List.length_take]; omega
    have g (x : Nat) (hx : x ≤ j) : (l.take (j + 1)).getD x 0 = l.getD x 0 := by
      rw [List.getD_eq_getElem?_getD, List.getD_eq_getElem?_getD, List.getElem?_take_of_lt (by omega)]
    rw [dif_get _ _ _ (by omega), g i hi]
    have hS1 : S l (i + 1) = l.getD i 0 := by unfold S; rw [if_neg (by omega), Nat.add_sub_cancel]
    rw [hS1]
    by_cases h0 : i = 0
    · subst h0
      have hS0 : S l 0 = 0 := rfl
      rw [if_neg (by omega), hS0]
      omega
    · have hb := hall (i - 1) (by omega)
      have hu := ha.2.2.1 (by omega)
      have hS0 : S l i = l.getD (i - 1) 0 := by unfold S; rw [if_neg h0]
      rw [if_pos (by omega), g (i - 1) (by omega), hS0, wrap64_eq (by omega) (by omega)]
      omega
  · have e : (if 0 ≤ (j : Int) ∧ (j : Int) < (l.length : Int) then l.getD (j : Int).toNat 0 else 0) = 0 := if_neg (by omega)
    rw [e]
    exact .inl ⟨rfl, rfl, by omega⟩

set_option maxRecDepth 100000 in
set_option maxHeartbeats 8000000 in
theorem walk (v d s u st s0 s1 s2 s3 p q r sg : Int) (w : World) (_ : (Lit.int .i64 sg).wf = true) : Calls Try.prog 5 #[.agg #[.int .i64 v, .int .i64 d, .int .i64 s, .int .i64 u, .int .i64 st, .int .i64 s0, .int .i64 s1, .int .i64 s2, .int .i64 s3, .int .i64 p, .int .i64 q, .int .i64 r], .int .i64 sg] w fun e w' => e = .returned (.bool true) ∧ Below w.heap.size w w' := by
  have HB := Aside0.mk (Below.refl w.heap.size w)
  go_enter Try.func5, Try.ntmps5
  go_wp2_with fail
  refine (B4.lives_q _).mono ?_
  rintro e w1 ⟨rfl, hb1⟩
  have D : IsBlk w1 (w.heap.size) #[.int .i64 v, .int .i64 d, .int .i64 s, .int .i64 u, .int .i64 st, .int .i64 s0, .int .i64 s1, .int .i64 s2, .int .i64 s3, .int .i64 p, .int .i64 q, .int .i64 r] 24 := IsBlk.below (by repeat (first | ((refine IsBlk.new _ _ ?_); (simp; done)) | apply IsBlk.alloc | apply IsBlk.drewN)) hb1
  have D_0 := blk_cell D 0
  have D_1 := blk_cell D 1
  have D_2 := blk_cell D 2
  have D_3 := blk_cell D 3
  have D_4 := blk_cell D 4
  have D_5 := blk_cell D 5
  have D_6 := blk_cell D 6
  have D_7 := blk_cell D 7
  have D_8 := blk_cell D 8
  have D_9 := blk_cell D 9
  have D_10 := blk_cell D 10
  have D_11 := blk_cell D 11
  simp only [List.getElem?_toArray, List.getElem?_cons_zero, List.getElem?_cons_succ] at D_0 D_1 D_2 D_3 D_4 D_5 D_6 D_7 D_8 D_9 D_10 D_11
  have D_l := blk_lt D
  have HD := Aside0.mk D
  clear D
  have n0 := Aside0.mk (below_step (by repeat (first | (with_reducible first | exact HB.out | apply below_alloc | apply pw_below_drewN | apply below_drew1) | refine below_set ?_ (by omega))) hb1)
  clear HB hb1
  have HB := n0
  clear n0
  go_wp2_with fail
  refine (good_q v d s u st s0 s1 s2 s3 p q r _).mono ?_
  rintro e w2 ⟨y0, y1, y2, y3, y4, y5, y6, y7, y8, y9, y10, y11, rfl, hM, hb1⟩
  clear D_0 D_1 D_2 D_3 D_4 D_5 D_6 D_7 D_8 D_9 D_10 D_11 D_l HD
  have n0 := Aside0.mk (below_step (by repeat (first | (with_reducible first | exact HB.out | apply below_alloc | apply pw_below_drewN | apply below_drew1) | refine below_set ?_ (by omega))) hb1)
  clear HB hb1
  have HB := n0
  clear n0
  go_wp2_with fail
  obtain ⟨j0, hj0⟩ : ∃ j, wrap64 ((IntKind.u64.wrap sg).tmod 6) = j := ⟨_, rfl⟩
  have hj6 : 0 ≤ j0 ∧ j0 < 6 := by rw [← hj0, raw_mod sg 6 (by decide) (by decide)]; omega
  (try rw [hj0])
  clear hj0
  obtain ⟨j, rfl⟩ : ∃ j : Nat, j0 = j := ⟨j0.toNat, by omega⟩
  have hsh := shares hM j
  obtain ⟨l, hl⟩ : ∃ l, targetsL y0 y1 y2 y3 y4 y5 y6 y7 y8 y9 y10 y11 = l := ⟨_, rfl⟩
  obtain ⟨L, hL⟩ : ∃ l, shareL y0 y1 y2 y3 y4 y5 y6 y7 y8 y9 y10 y11 j = l := ⟨_, rfl⟩
  obtain ⟨t, ht⟩ : ∃ l, targetV y0 y1 y2 y3 y4 y5 y6 y7 y8 y9 y10 y11 j = l := ⟨_, rfl⟩
  have h5 := targets_upto y0 y1 y2 y3 y4 y5 y6 y7 y8 y9 y10 y11
  rw [hl] at h5 hsh
  rw [hL, ht] at hsh
  have HL := Aside0.mk hl
  have HL2 := Aside0.mk hL
  have HT := Aside0.mk ht
  clear hM hl hL ht
  refine (share_q y0 y1 y2 y3 y4 y5 y6 y7 y8 y9 y10 y11 j _).mono ?_
  rw [HL2.out]
  rintro e w3 ⟨vv, rfl, hR, hb1⟩
  have G : IsBlk w3 (w2.heap.size) #[.int .i64 y0, .int .i64 y1, .int .i64 y2, .int .i64 y3, .int .i64 y4, .int .i64 y5, .int .i64 y6, .int .i64 y7, .int .i64 y8, .int .i64 y9, .int .i64 y10, .int .i64 y11] 24 := IsBlk.below (by repeat (first | ((refine IsBlk.new _ _ ?_); (simp; done)) | apply IsBlk.alloc | apply IsBlk.drewN)) hb1
  have G_0 := blk_cell G 0
  have G_1 := blk_cell G 1
  have G_2 := blk_cell G 2
  have G_3 := blk_cell G 3
  have G_4 := blk_cell G 4
  have G_5 := blk_cell G 5
  have G_6 := blk_cell G 6
  have G_7 := blk_cell G 7
  have G_8 := blk_cell G 8
  have G_9 := blk_cell G 9
  have G_10 := blk_cell G 10
  have G_11 := blk_cell G 11
  simp only [List.getElem?_toArray, List.getElem?_cons_zero, List.getElem?_cons_succ] at G_0 G_1 G_2 G_3 G_4 G_5 G_6 G_7 G_8 G_9 G_10 G_11
  have G_l := blk_lt G
  have HG := Aside0.mk G
  clear G
  have n0 := Aside0.mk (below_step (by repeat (first | (with_reducible first | exact HB.out | apply below_alloc | apply pw_below_drewN | apply below_drew1) | refine below_set ?_ (by omega))) hb1)
  clear HB hb1
  have HB := n0
  clear n0
  obtain ⟨A1, c1, rfl, hlc, _⟩ := Kd.R_reads hR
  have HR := Aside0.mk hR
  clear hR
  rcases hsh with ⟨rfl, rfl, hn⟩ | ⟨hjl, hlen, htS, hall⟩
  · go_wp2_with fail
    go_loopw [8, 9] (fun v8 v9 wr => v8 = .int .i64 0 ∧ v9 = .int .i64 0 ∧ Aside0 (IsBlk wr w2.heap.size #[.int .i64 y0, .int .i64 y1, .int .i64 y2, .int .i64 y3, .int .i64 y4, .int .i64 y5, .int .i64 y6, .int .i64 y7, .int .i64 y8, .int .i64 y9, .int .i64 y10, .int .i64 y11] 24) ∧ Aside0 (Below w.heap.size w wr)) (fun _ _ _ => 0)
    case atStart => exact ⟨rfl, rfl, ⟨(by repeat (with_reducible first | exact HG.out | apply IsBlk.alloc | apply IsBlk.drewN | apply IsBlk.drew))⟩, HB⟩
    case round =>
      clear G_0 G_1 G_2 G_3 G_4 G_5 G_6 G_7 G_8 G_9 G_10 G_11 G_l HG
      clear HB
      obtain ⟨rfl, rfl, HG0, HB⟩ := hrel
      have G := HG0.out
      clear HG0
      have G_0 := blk_cell G 0
      have G_1 := blk_cell G 1
      have G_2 := blk_cell G 2
      have G_3 := blk_cell G 3
      have G_4 := blk_cell G 4
      have G_5 := blk_cell G 5
      have G_6 := blk_cell G 6
      have G_7 := blk_cell G 7
      have G_8 := blk_cell G 8
      have G_9 := blk_cell G 9
      have G_10 := blk_cell G 10
      have G_11 := blk_cell G 11
      simp only [List.getElem?_toArray, List.getElem?_cons_zero, List.getElem?_cons_succ] at G_0 G_1 G_2 G_3 G_4 G_5 G_6 G_7 G_8 G_9 G_10 G_11
      have G_l := blk_lt G
      have HG := Aside0.mk G
      clear G
      have b1 : decide ((j : Int) < (l.length : Int)) = false := by simp; omega
      have b1n : decide (j < l.length) = false := by simp; omega
      have b2 : ((0 : Int) == (j : Int) + 1) = false := by simp; omega
      have b3 : decide ((0 : Int) ≤ (j : Int) + 1) = true := by simp; omega
      go_wp2_with fail
      refine (target_q y0 y1 y2 y3 y4 y5 y6 y7 y8 y9 y10 y11 j _).mono ?_
      rw [HT.out]
      rintro e w4 ⟨rfl, hb1⟩
      have G' := IsBlk.below (by repeat (with_reducible first | exact HG.out | apply IsBlk.alloc | apply IsBlk.drewN | apply IsBlk.drew)) hb1
      clear G_0 G_1 G_2 G_3 G_4 G_5 G_6 G_7 G_8 G_9 G_10 G_11 G_l HG
      have G := G'
      clear G'
      have G_0 := blk_cell G 0
      have G_1 := blk_cell G 1
      have G_2 := blk_cell G 2
      have G_3 := blk_cell G 3
      have G_4 := blk_cell G 4
      have G_5 := blk_cell G 5
      have G_6 := blk_cell G 6
      have G_7 := blk_cell G 7
      have G_8 := blk_cell G 8
      have G_9 := blk_cell G 9
      have G_10 := blk_cell G 10
      have G_11 := blk_cell G 11
      simp only [List.getElem?_toArray, List.getElem?_cons_zero, List.getElem?_cons_succ] at G_0 G_1 G_2 G_3 G_4 G_5 G_6 G_7 G_8 G_9 G_10 G_11
      have G_l := blk_lt G
      have HG := Aside0.mk G
      clear G
      have n0 := Aside0.mk (below_step (by repeat (first | (with_reducible first | exact HB.out | apply below_alloc | apply pw_below_drewN | apply below_drew1) | refine below_set ?_ (by omega))) hb1)
      clear HB hb1
      have HB := n0
      clear n0
      go_wp2_with fail
      refine (stages_q y0 y1 y2 y3 y4 y5 y6 y7 y8 y9 y10 y11 _).mono ?_
      rw [HL.out]
      rintro e w5 ⟨rfl, hb1⟩
      have n0 := Aside0.mk (below_step (by repeat (first | (with_reducible first | exact HB.out | apply below_alloc | apply pw_below_drewN | apply below_drew1) | refine below_set ?_ (by omega))) hb1)
      clear HB hb1
      have HB := n0
      clear n0
      go_wp2
      go_ret
      exact ⟨rfl, by repeat (first | (with_reducible first | exact HB.out | apply below_alloc | apply pw_below_drewN | apply below_drew1) | refine below_set ?_ (by omega))⟩
  · have HALL := Aside0.mk hall
    have HLEN := Aside0.mk hlen
    rw [hlen] at HR hlc ⊢
    have HTS := Aside0.mk htS
    clear hall hlen htS
    go_wp2_with fail
    go_loopw [8, 9] (fun v8 v9 wr => ∃ i : Nat, v9 = .int .i64 i ∧ i ≤ j + 1 ∧ v8 = .int .i64 (S l i) ∧ Aside0 (IsBlk wr w2.heap.size #[.int .i64 y0, .int .i64 y1, .int .i64 y2, .int .i64 y3, .int .i64 y4, .int .i64 y5, .int .i64 y6, .int .i64 y7, .int .i64 y8, .int .i64 y9, .int .i64 y10, .int .i64 y11] 24) ∧ Aside0 (RowI wr 0 (.slice A1 (j + 1) c1) L) ∧ Aside0 (Below w.heap.size w wr)) (fun _ v9 _ => j + 1 - (intOf v9).toNat)
    case atStart => exact ⟨0, rfl, by omega, rfl, ⟨(by repeat (with_reducible first | exact HG.out | apply IsBlk.alloc | apply IsBlk.drewN | apply IsBlk.drew))⟩, ⟨Kd.R_lower (by (with_reducible repeat (first | apply Kd.R_alloc | apply Kd.R_drewN | apply Kd.R_drew)); exact HR.out) (Nat.zero_le _)⟩, HB⟩
    case round =>
      clear G_0 G_1 G_2 G_3 G_4 G_5 G_6 G_7 G_8 G_9 G_10 G_11 G_l HG
      clear HB HR
      obtain ⟨i, rfl, hi, rfl, HG0, HR, HB⟩ := hrel
      have G := HG0.out
      clear HG0
      have G_0 := blk_cell G 0
      have G_1 := blk_cell G 1
      have G_2 := blk_cell G 2
      have G_3 := blk_cell G 3
      have G_4 := blk_cell G 4
      have G_5 := blk_cell G 5
      have G_6 := blk_cell G 6
      have G_7 := blk_cell G 7
      have G_8 := blk_cell G 8
      have G_9 := blk_cell G 9
      have G_10 := blk_cell G 10
      have G_11 := blk_cell G 11
      simp only [List.getElem?_toArray, List.getElem?_cons_zero, List.getElem?_cons_succ] at G_0 G_1 G_2 G_3 G_4 G_5 G_6 G_7 G_8 G_9 G_10 G_11
      have G_l := blk_lt G
      have HG := Aside0.mk G
      clear G
      by_cases hlt : i < j + 1
      · have hi1 : decide ((i : Int) < (j : Int) + 1) = true := by simp; omega
        have hij : (i : Int) < (j : Int) + 1 := by omega
        obtain ⟨h1, h2, h3, h4, hs⟩ := HALL.out i (by omega)
        obtain ⟨rb, ro, rfl, hrb, ck⟩ := row_at HR.out i (by have := HLEN.out; omega)
        obtain ⟨b, hb⟩ : ∃ b, L.getD i 0 = b := ⟨_, rfl⟩
        rw [hb] at ck h1 h4 hs
        obtain ⟨sm, hsm⟩ : ∃ x, S l i = x := ⟨_, rfl⟩
        rw [hsm] at h2 h3 hs ⊢
        have HS := Aside0.mk hs
        have t1 : decide (b < 0) = false := by simp; omega
        clear hs hb hsm
        go_wp2
        go_roundw
        case rel => exact ⟨i + 1, by go_num, by omega, by rw [HS.out], ⟨(by repeat (with_reducible first | exact HG.out | apply IsBlk.alloc | apply IsBlk.drewN | apply IsBlk.drew))⟩, ⟨(by (with_reducible repeat (first | apply Kd.R_alloc | apply Kd.R_drewN | apply Kd.R_drew)); exact HR.out)⟩, ⟨by repeat (first | (with_reducible first | exact HB.out | apply below_alloc | apply pw_below_drewN | apply below_drew1) | refine below_set ?_ (by omega))⟩⟩
        case measure => simp [intOf]; omega
      · have hi1 : decide ((i : Int) < (j : Int) + 1) = false := by simp; omega
        obtain rfl : i = j + 1 := by omega
        have b1 : decide ((j : Int) < (l.length : Int)) = true := by simp; omega
        have b1n : decide (j < l.length) = true := by simp; omega
        rw [← HTS.out]
        go_wp2_with fail
        refine (target_q y0 y1 y2 y3 y4 y5 y6 y7 y8 y9 y10 y11 j _).mono ?_
        rw [HT.out]
        rintro e w4 ⟨rfl, hb1⟩
        have G' := IsBlk.below (by repeat (with_reducible first | exact HG.out | apply IsBlk.alloc | apply IsBlk.drewN | apply IsBlk.drew)) hb1
        clear G_0 G_1 G_2 G_3 G_4 G_5 G_6 G_7 G_8 G_9 G_10 G_11 G_l HG
        have G := G'
        clear G'
        have G_0 := blk_cell G 0
        have G_1 := blk_cell G 1
        have G_2 := blk_cell G 2
        have G_3 := blk_cell G 3
        have G_4 := blk_cell G 4
        have G_5 := blk_cell G 5
        have G_6 := blk_cell G 6
        have G_7 := blk_cell G 7
        have G_8 := blk_cell G 8
        have G_9 := blk_cell G 9
        have G_10 := blk_cell G 10
        have G_11 := blk_cell G 11
        simp only [List.getElem?_toArray, List.getElem?_cons_zero, List.getElem?_cons_succ] at G_0 G_1 G_2 G_3 G_4 G_5 G_6 G_7 G_8 G_9 G_10 G_11
        have G_l := blk_lt G
        have HG := Aside0.mk G
        clear G
        have n0 := Aside0.mk (below_step (by repeat (first | (with_reducible first | exact HB.out | apply below_alloc | apply pw_below_drewN | apply below_drew1) | refine below_set ?_ (by omega))) hb1)
        clear HB hb1
        have HB := n0
        clear n0
        go_wp2_with fail
        refine (stages_q y0 y1 y2 y3 y4 y5 y6 y7 y8 y9 y10 y11 _).mono ?_
        rw [HL.out]
        rintro e w5 ⟨rfl, hb1⟩
        have n0 := Aside0.mk (below_step (by repeat (first | (with_reducible first | exact HB.out | apply below_alloc | apply pw_below_drewN | apply below_drew1) | refine below_set ?_ (by omega))) hb1)
        clear HB hb1
        have HB := n0
        clear n0
        go_wp2
        go_ret
        exact ⟨rfl, by repeat (first | (with_reducible first | exact HB.out | apply below_alloc | apply pw_below_drewN | apply below_drew1) | refine below_set ?_ (by omega))⟩
end Go.Proofs.Ytfnpepfabbgpfaa.WalkBatchShares
