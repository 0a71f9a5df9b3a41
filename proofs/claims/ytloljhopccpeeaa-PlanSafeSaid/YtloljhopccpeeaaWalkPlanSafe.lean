/-
  Proved here: what pacesetterlaw19.PlanSafe returns, whatever the input: true. No condition.
-/
import Derived.Test.YtloljhopccpeeaaQ5
import Derived.Test.YtloljhopccpeeaaO
namespace Go.Proofs.Ytloljhopccpeeaa.WalkPlanSafe
open Go.RowKit Go.Sort Go.Proofs.Ytloljhopccpeeaa.B0 Go.Proofs.Ytloljhopccpeeaa.Pl Go.Proofs.Ytloljhopccpeeaa.Pl2 Go.Proofs.Ytloljhopccpeeaa.Q1 Go.Proofs.Ytloljhopccpeeaa.Q2 Go.Proofs.Ytloljhopccpeeaa.Q3 Go.Proofs.Ytloljhopccpeeaa.Q4 Go.Proofs.Ytloljhopccpeeaa.Q5 Go.Proofs.YtloljhopccpeeaaW.PrintWords Go.Proofs.YtloljhopccpeeaaW.PrintLast Go.Proofs.YtloljhopccpeeaaW.PrintMore
open PPlanEnds (S35 z35 k35)
set_option linter.unusedVariables false
set_option linter.unusedSimpArgs false
attribute [local go_sem] max2_int min2_int max_two min_two

def toS (p : Int × Int × Bool) : S35 := ⟨p.1, p.2.1, p.2.2⟩
theorem C_of_Rowz {w : World} {A : Option Addr} {ps : List (Int × Int × Bool)} (h : O.Rowz O.Is35 3 w A ps) : Kd.C k35 w A (ps.map toS).length (ps.map toS) := by
  refine ⟨rfl, by simpa [maxLen] using Nat.le_trans h.1 (by decide), fun hn => ?_⟩
  obtain ⟨ad, e, hc⟩ := h.2 (by simpa using hn)
  refine ⟨ad, e, fun j p hj => ?_⟩
  rw [List.getElem?_map] at hj
  obtain ⟨x, hx, rfl⟩ := Option.map_eq_some_iff.1 hj
  obtain ⟨c, h1, h2, h3⟩ := hc j x hx
  refine ⟨c, h1, ?_, fun i u hu => ?_⟩
  · rw [h2.1]
    exact PPlanEnds.k35_mk w (toS x)
  · have := h3 i u hu
    rwa [add_add] at this

set_option maxRecDepth 100000 in
set_option maxHeartbeats 16000000 in
theorem law (v0 d0 s0 u0 st0 p0 p1 p2 p3 q0 q1 q2 a0 a1 : Int) (A0 : Option Addr) (k0 : Nat) (l0 : List S35) (w : World) (hr0 : Kd.C k35 w A0 l0.length l0) (hc0 : l0.length ≤ k0) : Calls Try.prog 4 #[.agg #[.int .i64 v0, .int .i64 d0, .int .i64 s0, .int .i64 u0, .int .i64 st0, .int .i64 p0, .int .i64 p1, .int .i64 p2, .int .i64 p3, .int .i64 q0, .int .i64 q1, .int .i64 q2], .agg #[.int .i64 a0, .int .i64 a1], .slice A0 l0.length k0] w fun e w' => e = .returned (.bool true) ∧ Below w.heap.size w w' := by
  have HB := Aside0.mk (Below.refl w.heap.size w)
  have HR0 := Aside0.mk hr0
  clear hr0
  go_enter Try.func4, Try.ntmps4
  go_wp2_with fail
  (with_reducible refine (lives_q _).mono ?_)
  rintro e w1 ⟨rfl, hb1⟩
  have D : IsBlk w1 w.heap.size #[.int .i64 v0, .int .i64 d0, .int .i64 s0, .int .i64 u0, .int .i64 st0, .int .i64 p0, .int .i64 p1, .int .i64 p2, .int .i64 p3, .int .i64 q0, .int .i64 q1, .int .i64 q2] 24 := IsBlk.below (by repeat (first | ((refine IsBlk.new _ _ ?_); (simp; done)) | apply IsBlk.alloc | apply IsBlk.drewN)) hb1
  have P : IsBlk w1 (w.heap.size + 1) #[.int .i64 a0, .int .i64 a1] 25 := IsBlk.below (by repeat (first | ((refine IsBlk.new _ _ ?_); (simp; done)) | apply IsBlk.alloc | apply IsBlk.drewN)) hb1
  have D_0 := blk_cell D 0
  have D_1 := blk_cell D 1
  have D_2 := blk_cell D 2
  have D_3 := blk_cell D 3
  have D_4 := blk_cell D 4
  have D_5 := blk_cell D 5
  have D_6 := blk_cell D 6
  have D_7 := blk_cell D 7
  have D_8 := blk_cell D 8
  have D_9 := blk_cell D 9
  have D_10 := blk_cell D 10
  have D_11 := blk_cell D 11
  simp only [List.getElem?_toArray, List.getElem?_cons_zero, List.getElem?_cons_succ] at D_0 D_1 D_2 D_3 D_4 D_5 D_6 D_7 D_8 D_9 D_10 D_11
  have D_l := blk_lt D
  have HD := Aside0.mk D
  clear D
  have P_0 := blk_cell P 0
  have P_1 := blk_cell P 1
  simp only [List.getElem?_toArray, List.getElem?_cons_zero, List.getElem?_cons_succ] at P_0 P_1
  have P_l := blk_lt P
  have HP := Aside0.mk P
  clear P
  have n0 := Aside0.mk (below_step (by repeat (first | (with_reducible first | exact HB.out | apply below_alloc | apply pw_below_drewN | apply below_drew1) | refine below_set ?_ (by omega))) hb1)
  clear HB hb1
  have HB := n0
  clear n0
  go_wp2_with fail
  (with_reducible refine (some_q v0 d0 s0 u0 st0 p0 p1 p2 p3 q0 q1 q2 a0 a1 _).mono ?_)
  rintro e w2 ⟨nw, t, d, lo, hi, bl, rfl, hok, hb1⟩
  have HOK := Aside0.mk hok
  clear hok
  clear D_0 D_1 D_2 D_3 D_4 D_5 D_6 D_7 D_8 D_9 D_10 D_11 D_l HD
  clear P_0 P_1 P_l HP
  have n0 := Aside0.mk (below_step (by repeat (first | (with_reducible first | exact HB.out | apply below_alloc | apply pw_below_drewN | apply below_drew1) | refine below_set ?_ (by omega))) hb1)
  clear HB hb1
  have HB := n0
  clear n0
  go_wp2_with fail
  (with_reducible refine (units_q A0 k0 l0 _ ?hC hc0).mono ?_)
  case hC => exact Kd.C_below HR0.out (by repeat (first | (with_reducible first | exact HB.out | apply below_alloc | apply pw_below_drewN | apply below_drew1) | refine below_set ?_ (by omega)))
  rintro e w3 ⟨vv, r, rfl, hRR, h16, hsm, hb1⟩
  obtain ⟨A1, c1, rfl, hc1, hC1⟩ := Kd.R_reads hRR
  have HRR := Aside0.mk hRR
  have HC := Aside0.mk hC1
  have HL := Aside0.mk h16
  have HSM := Aside0.mk hsm
  clear hRR hC1 h16 hsm hc0 HR0
  have G : IsBlk w3 w2.heap.size #[.int .i64 nw, .int .i64 t, .int .i64 d, .int .i64 lo, .int .i64 hi, .bool bl] 29 := IsBlk.below (by repeat (first | ((refine IsBlk.new _ _ ?_); (simp; done)) | apply IsBlk.alloc | apply IsBlk.drewN)) hb1
  obtain ⟨gG, hgG⟩ : ∃ g, w2.heap.size = g := ⟨_, rfl⟩
  rw [hgG] at G ⊢
  clear hgG
  have G_0 := blk_cell G 0
  have G_1 := blk_cell G 1
  have G_2 := blk_cell G 2
  have G_3 := blk_cell G 3
  have G_4 := blk_cell G 4
  have G_5 := blk_cell G 5
  simp only [List.getElem?_toArray, List.getElem?_cons_zero, List.getElem?_cons_succ] at G_0 G_1 G_2 G_3 G_4 G_5
  have G_l := blk_lt G
  have HG := Aside0.mk G
  clear G
  have n0 := Aside0.mk (below_step (by repeat (first | (with_reducible first | exact HB.out | apply below_alloc | apply pw_below_drewN | apply below_drew1) | refine below_set ?_ (by omega))) hb1)
  clear HB hb1
  have HB := n0
  clear n0
  go_wp2_with fail
  (with_reducible refine (next_q nw t d lo hi bl A1 c1 r _ ?hC hc1 ?h16).mono ?_)
  case hC => exact Kd.C_below HC.out (by repeat (first | (with_reducible first | exact (Below.refl _ _) | apply below_alloc | apply pw_below_drewN | apply below_drew1) | refine below_set ?_ (by omega)))
  case h16 => have := HL.out; omega
  obtain ⟨x, hx⟩ : ∃ x, nextV ⟨nw, t, d, lo, hi, bl⟩ r = x := ⟨_, rfl⟩
  rw [hx]
  obtain ⟨i, v, is⟩ := x
  cases is with
  | false =>
    obtain ⟨rfl, rfl⟩ := no_zero hx
    rintro e w4 ⟨rfl, hb1⟩
    have n0 := Aside0.mk (below_step (by repeat (first | (with_reducible first | exact HB.out | apply below_alloc | apply pw_below_drewN | apply below_drew1) | refine below_set ?_ (by omega))) hb1)
    clear HB hb1
    have HB := n0
    clear n0
    go_wp2
    go_ret
    exact ⟨rfl, by repeat (first | (with_reducible first | exact HB.out | apply below_alloc | apply pw_below_drewN | apply below_drew1) | refine below_set ?_ (by omega))⟩
  | true =>
    obtain ⟨k, rfl, hk, hv, hne, hlaw⟩ := safe_law hx HSM.out HOK.out.nw0 HOK.out.nwt
    rintro e w4 ⟨rfl, hb1⟩
    clear hx
    have G' := IsBlk.below (by repeat (with_reducible first | exact HG.out | apply IsBlk.alloc | apply IsBlk.drewN | apply IsBlk.drew)) hb1
    clear G_0 G_1 G_2 G_3 G_4 G_5 G_l HG
    have G := G'
    clear G'
    have G_0 := blk_cell G 0
    have G_1 := blk_cell G 1
    have G_2 := blk_cell G 2
    have G_3 := blk_cell G 3
    have G_4 := blk_cell G 4
    have G_5 := blk_cell G 5
    simp only [List.getElem?_toArray, List.getElem?_cons_zero, List.getElem?_cons_succ] at G_0 G_1 G_2 G_3 G_4 G_5
    have G_l := blk_lt G
    have HG := Aside0.mk G
    clear G
    have nC := Aside0.mk (Kd.C_below (Kd.C_below HC.out (by repeat (first | (with_reducible first | exact (Below.refl _ _) | apply below_alloc | apply pw_below_drewN | apply below_drew1) | refine below_set ?_ (by omega)))) hb1)
    clear HC
    have HC := nC
    clear nC
    have n0 := Aside0.mk (below_step (by repeat (first | (with_reducible first | exact HB.out | apply below_alloc | apply pw_below_drewN | apply below_drew1) | refine below_set ?_ (by omega))) hb1)
    clear HB hb1
    have HB := n0
    clear n0
    have hk16 : k < 16 := by have := HL.out; omega
    have k1 : decide ((k : Int) < 0) = false := by simp
    have k2 : decide ((15 : Int) < (k : Int)) = false := by simp; omega
    have k2n : decide (15 < k) = false := by simp; omega
    have ki0 : (0 : Int) ≤ (k : Int) := by omega
    have kil : (k : Int) < (r.length : Int) := by omega
    obtain ⟨rb, ro, x0, x1, x2, eA, hrb, hat, u0, u1, u2⟩ := C_at HC.out k hk
    rw [hat] at hne
    have hne' : v ≠ x0 := hne
    have hnb : (v == x0) = false := by rw [beq_eq_false_iff_ne]; exact hne'
    have HLAW := Aside0.mk hlaw
    have HK := Aside0.mk hk
    have HV := Aside0.mk hv
    clear hlaw hat hk hv hne hne'
    subst eA
    by_cases h0 : v = 0
    · subst h0
      clear HV
      go_wp2_with fail
      (with_reducible refine (count_q nw t d lo hi bl (some ⟨rb, ro, none⟩) c1 r _ ?hC hc1 ?h16).mono ?_)
      case hC => exact Kd.C_below HC.out (by repeat (first | (with_reducible first | exact (Below.refl _ _) | apply below_alloc | apply pw_below_drewN | apply below_drew1) | refine below_set ?_ (by omega)))
      case h16 => have := HL.out; omega
      obtain ⟨th0, e1⟩ : ∃ x, cnt isThere r = x := ⟨_, rfl⟩
      obtain ⟨up0, e2⟩ : ∃ x, cnt isUp r = x := ⟨_, rfl⟩
      rw [e1, e2]
      have E3 := Aside0.mk e1
      have E4 := Aside0.mk e2
      clear e1 e2
      rintro e w5 ⟨rfl, hb1⟩
      have G' := IsBlk.below (by repeat (with_reducible first | exact HG.out | apply IsBlk.alloc | apply IsBlk.drewN | apply IsBlk.drew)) hb1
      clear G_0 G_1 G_2 G_3 G_4 G_5 G_l HG
      have G := G'
      clear G'
      have G_0 := blk_cell G 0
      have G_1 := blk_cell G 1
      have G_2 := blk_cell G 2
      have G_3 := blk_cell G 3
      have G_4 := blk_cell G 4
      have G_5 := blk_cell G 5
      simp only [List.getElem?_toArray, List.getElem?_cons_zero, List.getElem?_cons_succ] at G_0 G_1 G_2 G_3 G_4 G_5
      have G_l := blk_lt G
      have HG := Aside0.mk G
      clear G
      have nC := Aside0.mk (Kd.C_below (Kd.C_below HC.out (by repeat (first | (with_reducible first | exact (Below.refl _ _) | apply below_alloc | apply pw_below_drewN | apply below_drew1) | refine below_set ?_ (by omega)))) hb1)
      clear HC
      have HC := nC
      clear nC
      have n0 := Aside0.mk (below_step (by repeat (first | (with_reducible first | exact HB.out | apply below_alloc | apply pw_below_drewN | apply below_drew1) | refine below_set ?_ (by omega))) hb1)
      clear HB hb1
      have HB := n0
      clear n0
      go_upto_region 11 with fail
      refine start_ (n := 15) (S := fun w' => w'.cell? ⟨gG, 0, none⟩ = some (.int .i64 nw) ∧ w'.cell? ⟨gG, 1, none⟩ = some (.int .i64 t) ∧ w'.cell? ⟨gG, 2, none⟩ = some (.int .i64 d) ∧ w'.cell? ⟨gG, 3, none⟩ = some (.int .i64 lo) ∧ w'.cell? ⟨gG, 4, none⟩ = some (.int .i64 hi) ∧ w'.cell? ⟨gG, 5, none⟩ = some (.bool bl)) (ds := []) #[false, false, false, false, false, false, false, false, false, false, false, false, false, false, false] (by kernel_rfl) rfl rfl ⟨G_0, G_1, G_2, G_3, G_4, G_5⟩ (fun hHeld => ?_)
      refine pure_ (i := 1) (N := some 77) (v := ?_) (a' := ?_) #[false, true, false, false, false, false, false, false, false, false, false, false, false, false, false] rfl rfl (by kernel_rfl) (fun _ _ _ h => h) (Or.inl ⟨by rfl, ?_⟩) ?_ ?_
      rotate_left
      · intro w'
        go_simp
        with_reducible rfl
      rotate_left
      · simp only [Act.put, List.setIfInBounds_toArray, List.set_cons_zero, List.set_cons_succ, i64_w, i32_w]
        rfl
      refine pure_ (i := 2) (N := some 78) (v := ?_) (a' := ?_) #[false, true, true, false, false, false, false, false, false, false, false, false, false, false, false] rfl rfl (by kernel_rfl) (fun _ _ _ h => h) (Or.inl ⟨by rfl, ?_⟩) ?_ ?_
      rotate_left
      · intro w'
        go_simp
        with_reducible rfl
      rotate_left
      · simp only [Act.put, List.setIfInBounds_toArray, List.set_cons_zero, List.set_cons_succ, i64_w, i32_w]
        rfl
      refine pure_ (i := 3) (N := some 79) (v := ?_) (a' := ?_) #[false, true, true, true, false, false, false, false, false, false, false, false, false, false, false] rfl rfl (by kernel_rfl) (fun _ _ _ h => h) (Or.inl ⟨by rfl, ?_⟩) ?_ ?_
      rotate_left
      · intro w'
        go_simp
        with_reducible rfl
      rotate_left
      · simp only [Act.put, List.setIfInBounds_toArray, List.set_cons_zero, List.set_cons_succ, i64_w, i32_w]
        rfl
      refine take_ (i := 0) (N := some 76) (v := ?_) (a' := ?_) #[true, true, true, true, false, false, false, false, false, false, false, false, false, false, false] rfl rfl (by kernel_rfl) (fun _ _ _ h => h) (Or.inl ⟨by rfl, ?_⟩) hHeld ?_ ?_
      rotate_left
      · rintro w' ⟨s0, s1, s2, s3, s4, s5⟩
        go_simp
        with_reducible rfl
      rotate_left
      · simp only [Act.put, List.setIfInBounds_toArray, List.set_cons_zero, List.set_cons_succ, i64_w, i32_w]
        rfl
      refine one_ (i := 4) (N := some 80) #[true, true, true, true, true, false, false, false, false, false, false, false, false, false, false] rfl rfl (by kernel_rfl) (by decide) (fun K hK => ?_)
      refine goes_ Try.func12 (by kernel_rfl) rfl #[.slice (some ⟨rb, ro, none⟩) r.length c1, .int .i64 (k : Int), .int .i64 0, .bool false] (by rfl) rfl rfl (by simp only [List.map_toArray, List.map_cons, List.map_nil]; rfl) ?_
      with_reducible refine (with_q (some ⟨rb, ro, none⟩) c1 r k 0 false _ (Kd.C_below HC.out (by repeat (first | (with_reducible first | exact (Below.refl _ _) | apply below_alloc | apply pw_below_drewN | apply below_drew1) | refine below_set ?_ (by omega)))) hc1 (by have := HL.out; omega) HK.out).mono ?_
      rintro e w5 ⟨vv, s, rfl, hR2, hb5⟩
      obtain ⟨A2, c2, rfl, hc2, hC2⟩ := Kd.R_reads hR2
      have hl2 : (told r k 0 s false).length = 16 := by unfold told; rw [List.length_set]; exact HL.out
      obtain ⟨s1, s2, s3, s4⟩ := HLAW.out s
      obtain ⟨l2, hl2e⟩ : ∃ x, told r k 0 s false = x := ⟨_, rfl⟩
      rw [hl2e] at hC2 hc2 hl2 s1 s2 s3 s4 ⊢
      have HC2 := Aside0.mk hC2
      have HL2 := Aside0.mk hl2
      have H1 := Aside0.mk s1
      have H2 := Aside0.mk s2
      have H3 := Aside0.mk s3
      have H4 := Aside0.mk s4
      clear hC2 hl2 s1 s2 s3 s4 hl2e hR2
      have nG := IsBlk.below (by repeat (with_reducible first | exact HG.out | apply IsBlk.alloc | apply IsBlk.drewN | apply IsBlk.drew)) hb5
      have nC := Kd.C_below (Kd.C_below HC.out (by repeat (first | (with_reducible first | exact (Below.refl _ _) | apply below_alloc | apply pw_below_drewN | apply below_drew1) | refine below_set ?_ (by omega)))) hb5
      have n0 := Aside0.mk (below_step (by repeat (first | (with_reducible first | exact HB.out | apply below_alloc | apply pw_below_drewN | apply below_drew1) | refine below_set ?_ (by omega))) hb5)
      clear HB HC HG
      have HB := n0
      have HC := Aside0.mk nC
      have HG := Aside0.mk nG
      clear n0 nC nG
      refine ⟨_, rfl, ?_⟩
      refine hK.out _ _ ⟨cell_keep hb5 hHeld.1, cell_keep hb5 hHeld.2.1, cell_keep hb5 hHeld.2.2.1, cell_keep hb5 hHeld.2.2.2.1, cell_keep hb5 hHeld.2.2.2.2.1, cell_keep hb5 hHeld.2.2.2.2.2⟩ (fun hHeld => ?_)
      clear hK K
      refine norm_ (a' := ?_) ?_ ?_
      rotate_left
      · show Act.put _ (some 80) _ = _
        simp only [Act.put, List.setIfInBounds_toArray, List.set_cons_zero, List.set_cons_succ, i64_w, i32_w]
        rfl
      refine one_ (i := 5) (N := some 81) #[true, true, true, true, true, true, false, false, false, false, false, false, false, false, false] rfl rfl (by kernel_rfl) (by decide) (fun K hK => ?_)
      refine goes_ Try.func11 (by kernel_rfl) rfl #[.agg #[.int .i64 nw, .int .i64 t, .int .i64 d, .int .i64 lo, .int .i64 hi, .bool bl], .slice A2 l2.length c2] (by rfl) rfl rfl (by simp only [List.map_toArray, List.map_cons, List.map_nil]; rfl) ?_
      with_reducible refine (count_q nw t d lo hi bl A2 c2 l2 _ (Kd.C_below HC2.out (by repeat (first | (with_reducible first | exact (Below.refl _ _) | apply below_alloc | apply pw_below_drewN | apply below_drew1) | refine below_set ?_ (by omega)))) hc2 (by have := HL2.out; omega)).mono ?_
      obtain ⟨th1, e1⟩ : ∃ x, cnt isThere l2 = x := ⟨_, rfl⟩
      obtain ⟨up1, e2⟩ : ∃ x, cnt isUp l2 = x := ⟨_, rfl⟩
      rw [e1, e2]
      have E1 := Aside0.mk e1
      have E2 := Aside0.mk e2
      clear e1 e2
      rintro e w5 ⟨rfl, hb5⟩
      have nG := IsBlk.below (by repeat (with_reducible first | exact HG.out | apply IsBlk.alloc | apply IsBlk.drewN | apply IsBlk.drew)) hb5
      have nC := Kd.C_below (Kd.C_below HC.out (by repeat (first | (with_reducible first | exact (Below.refl _ _) | apply below_alloc | apply pw_below_drewN | apply below_drew1) | refine below_set ?_ (by omega)))) hb5
      have n0 := Aside0.mk (below_step (by repeat (first | (with_reducible first | exact HB.out | apply below_alloc | apply pw_below_drewN | apply below_drew1) | refine below_set ?_ (by omega))) hb5)
      clear HB HC HG
      have HB := n0
      have HC := Aside0.mk nC
      have HG := Aside0.mk nG
      clear n0 nC nG
      refine ⟨_, rfl, ?_⟩
      refine hK.out _ _ ⟨cell_keep hb5 hHeld.1, cell_keep hb5 hHeld.2.1, cell_keep hb5 hHeld.2.2.1, cell_keep hb5 hHeld.2.2.2.1, cell_keep hb5 hHeld.2.2.2.2.1, cell_keep hb5 hHeld.2.2.2.2.2⟩ (fun hHeld => ?_)
      clear hK K
      refine norm_ (a' := ?_) ?_ ?_
      rotate_left
      · show Act.put _ (some 81) _ = _
        simp only [Act.put, List.setIfInBounds_toArray, List.set_cons_zero, List.set_cons_succ, i64_w, i32_w]
        rfl
      refine pure_ (i := 6) (N := some 75) (v := ?_) (a' := ?_) #[true, true, true, true, true, true, true, false, false, false, false, false, false, false, false] rfl rfl (by kernel_rfl) (fun _ _ _ h => h) (Or.inl ⟨by rfl, ?_⟩) ?_ ?_
      rotate_left
      · intro w'
        go_simp
        with_reducible rfl
      rotate_left
      · simp only [Act.put, List.setIfInBounds_toArray, List.set_cons_zero, List.set_cons_succ, i64_w, i32_w]
        rfl
      refine pure_ (i := 7) (N := some 82) (v := ?_) (a' := ?_) #[true, true, true, true, true, true, true, true, false, false, false, false, false, false, false] rfl rfl (by kernel_rfl) (fun _ _ _ h => h) (Or.inl ⟨by rfl, ?_⟩) ?_ ?_
      rotate_left
      · intro w'
        go_simp
        with_reducible rfl
      rotate_left
      · simp only [Act.put, List.setIfInBounds_toArray, List.set_cons_zero, List.set_cons_succ, i64_w, i32_w]
        rfl
      refine pure_ (i := 8) (N := some 83) (v := ?_) (a' := ?_) #[true, true, true, true, true, true, true, true, true, false, false, false, false, false, false] rfl rfl (by kernel_rfl) (fun _ _ _ h => h) (Or.inl ⟨by rfl, ?_⟩) ?_ ?_
      rotate_left
      · intro w'
        go_simp
        with_reducible rfl
      rotate_left
      · simp only [Act.put, List.setIfInBounds_toArray, List.set_cons_zero, List.set_cons_succ, i64_w, i32_w]
        rfl
      refine pure_ (i := 9) (N := some 84) (v := ?_) (a' := ?_) #[true, true, true, true, true, true, true, true, true, true, false, false, false, false, false] rfl rfl (by kernel_rfl) (fun _ _ _ h => h) (Or.inl ⟨by rfl, ?_⟩) ?_ ?_
      rotate_left
      · intro w'
        go_simp
        with_reducible rfl
      rotate_left
      · simp only [Act.put, List.setIfInBounds_toArray, List.set_cons_zero, List.set_cons_succ, i64_w, i32_w]
        rfl
      refine pure_ (i := 10) (N := some 85) (v := ?_) (a' := ?_) #[true, true, true, true, true, true, true, true, true, true, true, false, false, false, false] rfl rfl (by kernel_rfl) (fun _ _ _ h => h) (Or.inl ⟨by rfl, ?_⟩) ?_ ?_
      rotate_left
      · intro w'
        go_simp
        with_reducible rfl
      rotate_left
      · simp only [Act.put, List.setIfInBounds_toArray, List.set_cons_zero, List.set_cons_succ, i64_w, i32_w]
        rfl
      refine pure_ (i := 11) (N := some 16) (v := ?_) (a' := ?_) #[true, true, true, true, true, true, true, true, true, true, true, true, false, false, false] rfl rfl (by kernel_rfl) (fun _ _ _ h => h) (Or.inl ⟨by rfl, ?_⟩) ?_ ?_
      rotate_left
      · intro w'
        go_simp
        with_reducible rfl
      rotate_left
      · simp only [Act.put, List.setIfInBounds_toArray, List.set_cons_zero, List.set_cons_succ, i64_w, i32_w]
        rfl
      refine pure_ (i := 12) (N := some 17) (v := ?_) (a' := ?_) #[true, true, true, true, true, true, true, true, true, true, true, true, true, false, false] rfl rfl (by kernel_rfl) (fun _ _ _ h => h) (Or.inl ⟨by rfl, ?_⟩) ?_ ?_
      rotate_left
      · intro w'
        go_simp
        with_reducible rfl
      rotate_left
      · simp only [Act.put, List.setIfInBounds_toArray, List.set_cons_zero, List.set_cons_succ, i64_w, i32_w]
        rfl
      refine pure_ (i := 13) (N := some 18) (v := ?_) (a' := ?_) #[true, true, true, true, true, true, true, true, true, true, true, true, true, true, false] rfl rfl (by kernel_rfl) (fun _ _ _ h => h) (Or.inl ⟨by rfl, ?_⟩) ?_ ?_
      rotate_left
      · intro w'
        go_simp
        with_reducible rfl
      rotate_left
      · simp only [Act.put, List.setIfInBounds_toArray, List.set_cons_zero, List.set_cons_succ, i64_w, i32_w]
        rfl
      refine pure_ (i := 14) (N := some 19) (v := ?_) (a' := ?_) #[true, true, true, true, true, true, true, true, true, true, true, true, true, true, true] rfl rfl (by kernel_rfl) (fun _ _ _ h => h) (Or.inl ⟨by rfl, ?_⟩) ?_ ?_
      rotate_left
      · intro w'
        go_simp
        with_reducible rfl
      rotate_left
      · simp only [Act.put, List.setIfInBounds_toArray, List.set_cons_zero, List.set_cons_succ, i64_w, i32_w]
        rfl
      refine done_ (by kernel_rfl) ?_
      clear G_0 G_1 G_2 G_3 G_4 G_5 G_l
      have G := HG.out
      clear HG
      have G_0 := blk_cell G 0
      have G_1 := blk_cell G 1
      have G_2 := blk_cell G 2
      have G_3 := blk_cell G 3
      have G_4 := blk_cell G 4
      have G_5 := blk_cell G 5
      simp only [List.getElem?_toArray, List.getElem?_cons_zero, List.getElem?_cons_succ] at G_0 G_1 G_2 G_3 G_4 G_5
      have G_l := blk_lt G
      have HG := Aside0.mk G
      clear G
      have h1 := H1.out
      have h2 := H2.out
      have h3 := H3.out
      have h4 := H4.out
      rw [E1.out, E3.out] at h1
      rw [E2.out, E4.out] at h2
      rw [E1.out, E3.out] at h3
      rw [E2.out, E4.out] at h4
      have t3 : decide (th0 ≤ th1) = true := by simpa using h3
      have t4 : decide (up1 ≤ up0) = true := by simpa using h4
      have H1' : Aside0 (th1 ≤ hi ∨ th1 ≤ th0) := ⟨h1⟩
      have H2' : Aside0 (lo ≤ up1 ∨ up0 ≤ up1) := ⟨h2⟩
      clear h1 h2 h3 h4
      cases t1 : decide (th1 ≤ hi)
      · have t1' : decide (th1 ≤ th0) = true := by have := H1'.out; simp at t1; simp; omega
        cases t2 : decide (lo ≤ up1)
        · have t2' : decide (up0 ≤ up1) = true := by have := H2'.out; simp at t2; simp; omega
          go_wp2
          go_ret
          exact ⟨rfl, by repeat (first | (with_reducible first | exact HB.out | apply below_alloc | apply pw_below_drewN | apply below_drew1) | refine below_set ?_ (by omega))⟩
        · go_wp2
          go_ret
          exact ⟨rfl, by repeat (first | (with_reducible first | exact HB.out | apply below_alloc | apply pw_below_drewN | apply below_drew1) | refine below_set ?_ (by omega))⟩
      · cases t2 : decide (lo ≤ up1)
        · have t2' : decide (up0 ≤ up1) = true := by have := H2'.out; simp at t2; simp; omega
          go_wp2
          go_ret
          exact ⟨rfl, by repeat (first | (with_reducible first | exact HB.out | apply below_alloc | apply pw_below_drewN | apply below_drew1) | refine below_set ?_ (by omega))⟩
        · go_wp2
          go_ret
          exact ⟨rfl, by repeat (first | (with_reducible first | exact HB.out | apply below_alloc | apply pw_below_drewN | apply below_drew1) | refine below_set ?_ (by omega))⟩
    · have h0b : (v == 0) = false := by simpa using h0
      have hv0 : v ≠ 0 := h0
      have h0n : (v != 0) = true := by simpa using h0
      obtain rfl : nw = v := by rcases HV.out with h | h; exact absurd h h0; exact h.symm
      clear h0 hv0 HV
      go_wp2_with fail
      (with_reducible refine (count_q nw t d lo hi bl (some ⟨rb, ro, none⟩) c1 r _ ?hC hc1 ?h16).mono ?_)
      case hC => exact Kd.C_below HC.out (by repeat (first | (with_reducible first | exact (Below.refl _ _) | apply below_alloc | apply pw_below_drewN | apply below_drew1) | refine below_set ?_ (by omega)))
      case h16 => have := HL.out; omega
      obtain ⟨th0, e1⟩ : ∃ x, cnt isThere r = x := ⟨_, rfl⟩
      obtain ⟨up0, e2⟩ : ∃ x, cnt isUp r = x := ⟨_, rfl⟩
      rw [e1, e2]
      have E3 := Aside0.mk e1
      have E4 := Aside0.mk e2
      clear e1 e2
      rintro e w5 ⟨rfl, hb1⟩
      have G' := IsBlk.below (by repeat (with_reducible first | exact HG.out | apply IsBlk.alloc | apply IsBlk.drewN | apply IsBlk.drew)) hb1
      clear G_0 G_1 G_2 G_3 G_4 G_5 G_l HG
      have G := G'
      clear G'
      have G_0 := blk_cell G 0
      have G_1 := blk_cell G 1
      have G_2 := blk_cell G 2
      have G_3 := blk_cell G 3
      have G_4 := blk_cell G 4
      have G_5 := blk_cell G 5
      simp only [List.getElem?_toArray, List.getElem?_cons_zero, List.getElem?_cons_succ] at G_0 G_1 G_2 G_3 G_4 G_5
      have G_l := blk_lt G
      have HG := Aside0.mk G
      clear G
      have nC := Aside0.mk (Kd.C_below (Kd.C_below HC.out (by repeat (first | (with_reducible first | exact (Below.refl _ _) | apply below_alloc | apply pw_below_drewN | apply below_drew1) | refine below_set ?_ (by omega)))) hb1)
      clear HC
      have HC := nC
      clear nC
      have n0 := Aside0.mk (below_step (by repeat (first | (with_reducible first | exact HB.out | apply below_alloc | apply pw_below_drewN | apply below_drew1) | refine below_set ?_ (by omega))) hb1)
      clear HB hb1
      have HB := n0
      clear n0
      go_upto_region 11 with fail
      refine start_ (n := 15) (S := fun w' => w'.cell? ⟨gG, 0, none⟩ = some (.int .i64 nw) ∧ w'.cell? ⟨gG, 1, none⟩ = some (.int .i64 t) ∧ w'.cell? ⟨gG, 2, none⟩ = some (.int .i64 d) ∧ w'.cell? ⟨gG, 3, none⟩ = some (.int .i64 lo) ∧ w'.cell? ⟨gG, 4, none⟩ = some (.int .i64 hi) ∧ w'.cell? ⟨gG, 5, none⟩ = some (.bool bl)) (ds := []) #[false, false, false, false, false, false, false, false, false, false, false, false, false, false, false] (by kernel_rfl) rfl rfl ⟨G_0, G_1, G_2, G_3, G_4, G_5⟩ (fun hHeld => ?_)
      refine pure_ (i := 1) (N := some 77) (v := ?_) (a' := ?_) #[false, true, false, false, false, false, false, false, false, false, false, false, false, false, false] rfl rfl (by kernel_rfl) (fun _ _ _ h => h) (Or.inl ⟨by rfl, ?_⟩) ?_ ?_
      rotate_left
      · intro w'
        go_simp
        with_reducible rfl
      rotate_left
      · simp only [Act.put, List.setIfInBounds_toArray, List.set_cons_zero, List.set_cons_succ, i64_w, i32_w]
        rfl
      refine pure_ (i := 2) (N := some 78) (v := ?_) (a' := ?_) #[false, true, true, false, false, false, false, false, false, false, false, false, false, false, false] rfl rfl (by kernel_rfl) (fun _ _ _ h => h) (Or.inl ⟨by rfl, ?_⟩) ?_ ?_
      rotate_left
      · intro w'
        go_simp
        with_reducible rfl
      rotate_left
      · simp only [Act.put, List.setIfInBounds_toArray, List.set_cons_zero, List.set_cons_succ, i64_w, i32_w]
        rfl
      refine pure_ (i := 3) (N := some 79) (v := ?_) (a' := ?_) #[false, true, true, true, false, false, false, false, false, false, false, false, false, false, false] rfl rfl (by kernel_rfl) (fun _ _ _ h => h) (Or.inl ⟨by rfl, ?_⟩) ?_ ?_
      rotate_left
      · intro w'
        go_simp
        with_reducible rfl
      rotate_left
      · simp only [Act.put, List.setIfInBounds_toArray, List.set_cons_zero, List.set_cons_succ, i64_w, i32_w]
        rfl
      refine take_ (i := 0) (N := some 76) (v := ?_) (a' := ?_) #[true, true, true, true, false, false, false, false, false, false, false, false, false, false, false] rfl rfl (by kernel_rfl) (fun _ _ _ h => h) (Or.inl ⟨by rfl, ?_⟩) hHeld ?_ ?_
      rotate_left
      · rintro w' ⟨s0, s1, s2, s3, s4, s5⟩
        go_simp
        with_reducible rfl
      rotate_left
      · simp only [Act.put, List.setIfInBounds_toArray, List.set_cons_zero, List.set_cons_succ, i64_w, i32_w]
        rfl
      refine one_ (i := 4) (N := some 80) #[true, true, true, true, true, false, false, false, false, false, false, false, false, false, false] rfl rfl (by kernel_rfl) (by decide) (fun K hK => ?_)
      refine goes_ Try.func12 (by kernel_rfl) rfl #[.slice (some ⟨rb, ro, none⟩) r.length c1, .int .i64 (k : Int), .int .i64 nw, .bool false] (by rfl) rfl rfl (by simp only [List.map_toArray, List.map_cons, List.map_nil]; rfl) ?_
      with_reducible refine (with_q (some ⟨rb, ro, none⟩) c1 r k nw false _ (Kd.C_below HC.out (by repeat (first | (with_reducible first | exact (Below.refl _ _) | apply below_alloc | apply pw_below_drewN | apply below_drew1) | refine below_set ?_ (by omega)))) hc1 (by have := HL.out; omega) HK.out).mono ?_
      rintro e w5 ⟨vv, s, rfl, hR2, hb5⟩
      obtain ⟨A2, c2, rfl, hc2, hC2⟩ := Kd.R_reads hR2
      have hl2 : (told r k nw s false).length = 16 := by unfold told; rw [List.length_set]; exact HL.out
      obtain ⟨s1, s2, s3, s4⟩ := HLAW.out s
      obtain ⟨l2, hl2e⟩ : ∃ x, told r k nw s false = x := ⟨_, rfl⟩
      rw [hl2e] at hC2 hc2 hl2 s1 s2 s3 s4 ⊢
      have HC2 := Aside0.mk hC2
      have HL2 := Aside0.mk hl2
      have H1 := Aside0.mk s1
      have H2 := Aside0.mk s2
      have H3 := Aside0.mk s3
      have H4 := Aside0.mk s4
      clear hC2 hl2 s1 s2 s3 s4 hl2e hR2
      have nG := IsBlk.below (by repeat (with_reducible first | exact HG.out | apply IsBlk.alloc | apply IsBlk.drewN | apply IsBlk.drew)) hb5
      have nC := Kd.C_below (Kd.C_below HC.out (by repeat (first | (with_reducible first | exact (Below.refl _ _) | apply below_alloc | apply pw_below_drewN | apply below_drew1) | refine below_set ?_ (by omega)))) hb5
      have n0 := Aside0.mk (below_step (by repeat (first | (with_reducible first | exact HB.out | apply below_alloc | apply pw_below_drewN | apply below_drew1) | refine below_set ?_ (by omega))) hb5)
      clear HB HC HG
      have HB := n0
      have HC := Aside0.mk nC
      have HG := Aside0.mk nG
      clear n0 nC nG
      refine ⟨_, rfl, ?_⟩
      refine hK.out _ _ ⟨cell_keep hb5 hHeld.1, cell_keep hb5 hHeld.2.1, cell_keep hb5 hHeld.2.2.1, cell_keep hb5 hHeld.2.2.2.1, cell_keep hb5 hHeld.2.2.2.2.1, cell_keep hb5 hHeld.2.2.2.2.2⟩ (fun hHeld => ?_)
      clear hK K
      refine norm_ (a' := ?_) ?_ ?_
      rotate_left
      · show Act.put _ (some 80) _ = _
        simp only [Act.put, List.setIfInBounds_toArray, List.set_cons_zero, List.set_cons_succ, i64_w, i32_w]
        rfl
      refine one_ (i := 5) (N := some 81) #[true, true, true, true, true, true, false, false, false, false, false, false, false, false, false] rfl rfl (by kernel_rfl) (by decide) (fun K hK => ?_)
      refine goes_ Try.func11 (by kernel_rfl) rfl #[.agg #[.int .i64 nw, .int .i64 t, .int .i64 d, .int .i64 lo, .int .i64 hi, .bool bl], .slice A2 l2.length c2] (by rfl) rfl rfl (by simp only [List.map_toArray, List.map_cons, List.map_nil]; rfl) ?_
      with_reducible refine (count_q nw t d lo hi bl A2 c2 l2 _ (Kd.C_below HC2.out (by repeat (first | (with_reducible first | exact (Below.refl _ _) | apply below_alloc | apply pw_below_drewN | apply below_drew1) | refine below_set ?_ (by omega)))) hc2 (by have := HL2.out; omega)).mono ?_
      obtain ⟨th1, e1⟩ : ∃ x, cnt isThere l2 = x := ⟨_, rfl⟩
      obtain ⟨up1, e2⟩ : ∃ x, cnt isUp l2 = x := ⟨_, rfl⟩
      rw [e1, e2]
      have E1 := Aside0.mk e1
      have E2 := Aside0.mk e2
      clear e1 e2
      rintro e w5 ⟨rfl, hb5⟩
      have nG := IsBlk.below (by repeat (with_reducible first | exact HG.out | apply IsBlk.alloc | apply IsBlk.drewN | apply IsBlk.drew)) hb5
      have nC := Kd.C_below (Kd.C_below HC.out (by repeat (first | (with_reducible first | exact (Below.refl _ _) | apply below_alloc | apply pw_below_drewN | apply below_drew1) | refine below_set ?_ (by omega)))) hb5
      have n0 := Aside0.mk (below_step (by repeat (first | (with_reducible first | exact HB.out | apply below_alloc | apply pw_below_drewN | apply below_drew1) | refine below_set ?_ (by omega))) hb5)
      clear HB HC HG
      have HB := n0
      have HC := Aside0.mk nC
      have HG := Aside0.mk nG
      clear n0 nC nG
      refine ⟨_, rfl, ?_⟩
      refine hK.out _ _ ⟨cell_keep hb5 hHeld.1, cell_keep hb5 hHeld.2.1, cell_keep hb5 hHeld.2.2.1, cell_keep hb5 hHeld.2.2.2.1, cell_keep hb5 hHeld.2.2.2.2.1, cell_keep hb5 hHeld.2.2.2.2.2⟩ (fun hHeld => ?_)
      clear hK K
      refine norm_ (a' := ?_) ?_ ?_
      rotate_left
      · show Act.put _ (some 81) _ = _
        simp only [Act.put, List.setIfInBounds_toArray, List.set_cons_zero, List.set_cons_succ, i64_w, i32_w]
        rfl
      refine pure_ (i := 6) (N := some 75) (v := ?_) (a' := ?_) #[true, true, true, true, true, true, true, false, false, false, false, false, false, false, false] rfl rfl (by kernel_rfl) (fun _ _ _ h => h) (Or.inl ⟨by rfl, ?_⟩) ?_ ?_
      rotate_left
      · intro w'
        go_simp
        with_reducible rfl
      rotate_left
      · simp only [Act.put, List.setIfInBounds_toArray, List.set_cons_zero, List.set_cons_succ, i64_w, i32_w]
        rfl
      refine pure_ (i := 7) (N := some 82) (v := ?_) (a' := ?_) #[true, true, true, true, true, true, true, true, false, false, false, false, false, false, false] rfl rfl (by kernel_rfl) (fun _ _ _ h => h) (Or.inl ⟨by rfl, ?_⟩) ?_ ?_
      rotate_left
      · intro w'
        go_simp
        with_reducible rfl
      rotate_left
      · simp only [Act.put, List.setIfInBounds_toArray, List.set_cons_zero, List.set_cons_succ, i64_w, i32_w]
        rfl
      refine pure_ (i := 8) (N := some 83) (v := ?_) (a' := ?_) #[true, true, true, true, true, true, true, true, true, false, false, false, false, false, false] rfl rfl (by kernel_rfl) (fun _ _ _ h => h) (Or.inl ⟨by rfl, ?_⟩) ?_ ?_
      rotate_left
      · intro w'
        go_simp
        with_reducible rfl
      rotate_left
      · simp only [Act.put, List.setIfInBounds_toArray, List.set_cons_zero, List.set_cons_succ, i64_w, i32_w]
        rfl
      refine pure_ (i := 9) (N := some 84) (v := ?_) (a' := ?_) #[true, true, true, true, true, true, true, true, true, true, false, false, false, false, false] rfl rfl (by kernel_rfl) (fun _ _ _ h => h) (Or.inl ⟨by rfl, ?_⟩) ?_ ?_
      rotate_left
      · intro w'
        go_simp
        with_reducible rfl
      rotate_left
      · simp only [Act.put, List.setIfInBounds_toArray, List.set_cons_zero, List.set_cons_succ, i64_w, i32_w]
        rfl
      refine pure_ (i := 10) (N := some 85) (v := ?_) (a' := ?_) #[true, true, true, true, true, true, true, true, true, true, true, false, false, false, false] rfl rfl (by kernel_rfl) (fun _ _ _ h => h) (Or.inl ⟨by rfl, ?_⟩) ?_ ?_
      rotate_left
      · intro w'
        go_simp
        with_reducible rfl
      rotate_left
      · simp only [Act.put, List.setIfInBounds_toArray, List.set_cons_zero, List.set_cons_succ, i64_w, i32_w]
        rfl
      refine pure_ (i := 11) (N := some 16) (v := ?_) (a' := ?_) #[true, true, true, true, true, true, true, true, true, true, true, true, false, false, false] rfl rfl (by kernel_rfl) (fun _ _ _ h => h) (Or.inl ⟨by rfl, ?_⟩) ?_ ?_
      rotate_left
      · intro w'
        go_simp
        with_reducible rfl
      rotate_left
      · simp only [Act.put, List.setIfInBounds_toArray, List.set_cons_zero, List.set_cons_succ, i64_w, i32_w]
        rfl
      refine pure_ (i := 12) (N := some 17) (v := ?_) (a' := ?_) #[true, true, true, true, true, true, true, true, true, true, true, true, true, false, false] rfl rfl (by kernel_rfl) (fun _ _ _ h => h) (Or.inl ⟨by rfl, ?_⟩) ?_ ?_
      rotate_left
      · intro w'
        go_simp
        with_reducible rfl
      rotate_left
      · simp only [Act.put, List.setIfInBounds_toArray, List.set_cons_zero, List.set_cons_succ, i64_w, i32_w]
        rfl
      refine pure_ (i := 13) (N := some 18) (v := ?_) (a' := ?_) #[true, true, true, true, true, true, true, true, true, true, true, true, true, true, false] rfl rfl (by kernel_rfl) (fun _ _ _ h => h) (Or.inl ⟨by rfl, ?_⟩) ?_ ?_
      rotate_left
      · intro w'
        go_simp
        with_reducible rfl
      rotate_left
      · simp only [Act.put, List.setIfInBounds_toArray, List.set_cons_zero, List.set_cons_succ, i64_w, i32_w]
        rfl
      refine pure_ (i := 14) (N := some 19) (v := ?_) (a' := ?_) #[true, true, true, true, true, true, true, true, true, true, true, true, true, true, true] rfl rfl (by kernel_rfl) (fun _ _ _ h => h) (Or.inl ⟨by rfl, ?_⟩) ?_ ?_
      rotate_left
      · intro w'
        go_simp
        with_reducible rfl
      rotate_left
      · simp only [Act.put, List.setIfInBounds_toArray, List.set_cons_zero, List.set_cons_succ, i64_w, i32_w]
        rfl
      refine done_ (by kernel_rfl) ?_
      clear G_0 G_1 G_2 G_3 G_4 G_5 G_l
      have G := HG.out
      clear HG
      have G_0 := blk_cell G 0
      have G_1 := blk_cell G 1
      have G_2 := blk_cell G 2
      have G_3 := blk_cell G 3
      have G_4 := blk_cell G 4
      have G_5 := blk_cell G 5
      simp only [List.getElem?_toArray, List.getElem?_cons_zero, List.getElem?_cons_succ] at G_0 G_1 G_2 G_3 G_4 G_5
      have G_l := blk_lt G
      have HG := Aside0.mk G
      clear G
      have h1 := H1.out
      have h2 := H2.out
      have h3 := H3.out
      have h4 := H4.out
      rw [E1.out, E3.out] at h1
      rw [E2.out, E4.out] at h2
      rw [E1.out, E3.out] at h3
      rw [E2.out, E4.out] at h4
      have t3 : decide (th0 ≤ th1) = true := by simpa using h3
      have t4 : decide (up1 ≤ up0) = true := by simpa using h4
      have H1' : Aside0 (th1 ≤ hi ∨ th1 ≤ th0) := ⟨h1⟩
      have H2' : Aside0 (lo ≤ up1 ∨ up0 ≤ up1) := ⟨h2⟩
      clear h1 h2 h3 h4
      cases t1 : decide (th1 ≤ hi)
      · have t1' : decide (th1 ≤ th0) = true := by have := H1'.out; simp at t1; simp; omega
        cases t2 : decide (lo ≤ up1)
        · have t2' : decide (up0 ≤ up1) = true := by have := H2'.out; simp at t2; simp; omega
          go_wp2
          go_ret
          exact ⟨rfl, by repeat (first | (with_reducible first | exact HB.out | apply below_alloc | apply pw_below_drewN | apply below_drew1) | refine below_set ?_ (by omega))⟩
        · go_wp2
          go_ret
          exact ⟨rfl, by repeat (first | (with_reducible first | exact HB.out | apply below_alloc | apply pw_below_drewN | apply below_drew1) | refine below_set ?_ (by omega))⟩
      · cases t2 : decide (lo ≤ up1)
        · have t2' : decide (up0 ≤ up1) = true := by have := H2'.out; simp at t2; simp; omega
          go_wp2
          go_ret
          exact ⟨rfl, by repeat (first | (with_reducible first | exact HB.out | apply below_alloc | apply pw_below_drewN | apply below_drew1) | refine below_set ?_ (by omega))⟩
        · go_wp2
          go_ret
          exact ⟨rfl, by repeat (first | (with_reducible first | exact HB.out | apply below_alloc | apply pw_below_drewN | apply below_drew1) | refine below_set ?_ (by omega))⟩

theorem walk (v0 d0 s0 u0 st0 p0 p1 p2 p3 q0 q1 q2 a0 a1 : Int) (A0 : Option Addr) (k0 : Nat) (l0 : List (Int × Int × Bool)) (w : World) (h1 : O.Rowz O.Is35 3 w A0 l0) (h2 : l0.length ≤ k0) : Calls Try.prog 4 #[.agg #[.int .i64 v0, .int .i64 d0, .int .i64 s0, .int .i64 u0, .int .i64 st0, .int .i64 p0, .int .i64 p1, .int .i64 p2, .int .i64 p3, .int .i64 q0, .int .i64 q1, .int .i64 q2], .agg #[.int .i64 a0, .int .i64 a1], .slice A0 l0.length k0] w fun e w' => e = .returned (.bool true) ∧ Below w.heap.size w w' := by
  have h := law v0 d0 s0 u0 st0 p0 p1 p2 p3 q0 q1 q2 a0 a1 A0 k0 (l0.map toS) w (C_of_Rowz h1) (by simpa using h2)
  rw [List.length_map] at h
  exact h
end Go.Proofs.Ytloljhopccpeeaa.WalkPlanSafe

