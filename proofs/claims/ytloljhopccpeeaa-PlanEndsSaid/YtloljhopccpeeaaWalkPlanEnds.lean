/-
  Proved here: what pacesetterlaw19.PlanEnds returns, whatever the input: true. No condition.
-/
import Derived.Test.YtloljhopccpeeaaQ5
import Derived.Test.YtloljhopccpeeaaO
namespace Go.Proofs.Ytloljhopccpeeaa.WalkPlanEnds
open Go.RowKit Go.Sort Go.Proofs.Ytloljhopccpeeaa.B0 Go.Proofs.Ytloljhopccpeeaa.Pl Go.Proofs.Ytloljhopccpeeaa.Pl2 Go.Proofs.Ytloljhopccpeeaa.Q1 Go.Proofs.Ytloljhopccpeeaa.Q2 Go.Proofs.Ytloljhopccpeeaa.Q3 Go.Proofs.Ytloljhopccpeeaa.Q4 Go.Proofs.Ytloljhopccpeeaa.Q5 Go.Proofs.YtloljhopccpeeaaW.PrintWords Go.Proofs.YtloljhopccpeeaaW.PrintLast Go.Proofs.YtloljhopccpeeaaW.PrintMore
open PPlanEnds (S35 z35 k35)
set_option linter.unusedVariables false
set_option linter.unusedSimpArgs false
attribute [local go_sem] max2_int min2_int max_two min_two

def toS (p : Int × Int × Bool) : S35 := ⟨p.1, p.2.1, p.2.2⟩
theorem C_of_Rowz {w : World} {A : Option Addr} {ps : List (Int × Int × Bool)} (h : O.Rowz O.Is35 3 w A ps) : Kd.C k35 w A (ps.map toS).length (ps.map toS) := by
  refine ⟨rfl, by simpa [maxLen] using Nat.le_trans h.1 (by decide), fun hn => ?_⟩
  obtain ⟨ad, e, hc⟩ := h.2 (by simpa using hn)
  refine ⟨ad, e, fun j p hj => ?_⟩
  rw [List.getElem?_map] at hj
  obtain ⟨x, hx, rfl⟩ := Option.map_eq_some_iff.1 hj
  obtain ⟨c, h1, h2, h3⟩ := hc j x hx
  refine ⟨c, h1, ?_, fun i u hu => ?_⟩
  · rw [h2.1]
    exact PPlanEnds.k35_mk w (toS x)
  · have := h3 i u hu
    rwa [add_add] at this

set_option maxRecDepth 100000 in
set_option maxHeartbeats 16000000 in
theorem law (v0 d0 s0 u0 st0 p0 p1 p2 p3 q0 q1 q2 a0 a1 : Int) (A0 : Option Addr) (k0 : Nat) (l0 : List S35) (w : World) (hr0 : Kd.C k35 w A0 l0.length l0) (hc0 : l0.length ≤ k0) : Calls Try.prog 5 #[.agg #[.int .i64 v0, .int .i64 d0, .int .i64 s0, .int .i64 u0, .int .i64 st0, .int .i64 p0, .int .i64 p1, .int .i64 p2, .int .i64 p3, .int .i64 q0, .int .i64 q1, .int .i64 q2], .agg #[.int .i64 a0, .int .i64 a1], .slice A0 l0.length k0] w fun e w' => e = .returned (.bool true) ∧ Below w.heap.size w w' := by
  have HB := Aside0.mk (Below.refl w.heap.size w)
  have HR0 := Aside0.mk hr0
  clear hr0
  go_enter Try.func5, Try.ntmps5
  go_wp2_with fail
  (with_reducible refine (lives_q _).mono ?_)
  rintro e w1 ⟨rfl, hb1⟩
  have D : IsBlk w1 w.heap.size #[.int .i64 v0, .int .i64 d0, .int .i64 s0, .int .i64 u0, .int .i64 st0, .int .i64 p0, .int .i64 p1, .int .i64 p2, .int .i64 p3, .int .i64 q0, .int .i64 q1, .int .i64 q2] 24 := IsBlk.below (by repeat (first | ((refine IsBlk.new _ _ ?_); (simp; done)) | apply IsBlk.alloc | apply IsBlk.drewN)) hb1
  have P : IsBlk w1 (w.heap.size + 1) #[.int .i64 a0, .int .i64 a1] 25 := IsBlk.below (by repeat (first | ((refine IsBlk.new _ _ ?_); (simp; done)) | apply IsBlk.alloc | apply IsBlk.drewN)) hb1
  have D_0 := blk_cell D 0
  have D_1 := blk_cell D 1
  have D_2 := blk_cell D 2
  have D_3 := blk_cell D 3
  have D_4 := blk_cell D 4
  have D_5 := blk_cell D 5
  have D_6 := blk_cell D 6
  have D_7 := blk_cell D 7
  have D_8 := blk_cell D 8
  have D_9 := blk_cell D 9
  have D_10 := blk_cell D 10
  have D_11 := blk_cell D 11
  simp only [List.getElem?_toArray, List.getElem?_cons_zero, List.getElem?_cons_succ] at D_0 D_1 D_2 D_3 D_4 D_5 D_6 D_7 D_8 D_9 D_10 D_11
  have D_l := blk_lt D
  have HD := Aside0.mk D
  clear D
  have P_0 := blk_cell P 0
  have P_1 := blk_cell P 1
  simp only [List.getElem?_toArray, List.getElem?_cons_zero, List.getElem?_cons_succ] at P_0 P_1
  have P_l := blk_lt P
  have HP := Aside0.mk P
  clear P
  have n0 := Aside0.mk (below_step (by repeat (first | (with_reducible first | exact HB.out | apply below_alloc | apply pw_below_drewN | apply below_drew1) | refine below_set ?_ (by omega))) hb1)
  clear HB hb1
  have HB := n0
  clear n0
  go_wp2_with fail
  (with_reducible refine (some_q v0 d0 s0 u0 st0 p0 p1 p2 p3 q0 q1 q2 a0 a1 _).mono ?_)
  rintro e w2 ⟨nw, t, d, lo, hi, bl, rfl, hok, hb1⟩
  have HOK := Aside0.mk hok
  clear hok
  clear D_0 D_1 D_2 D_3 D_4 D_5 D_6 D_7 D_8 D_9 D_10 D_11 D_l HD
  clear P_0 P_1 P_l HP
  have n0 := Aside0.mk (below_step (by repeat (first | (with_reducible first | exact HB.out | apply below_alloc | apply pw_below_drewN | apply below_drew1) | refine below_set ?_ (by omega))) hb1)
  clear HB hb1
  have HB := n0
  clear n0
  have HWG := Aside0.mk (below_size HB.out)
  go_wp2_with fail
  (with_reducible refine (all_q A0 k0 l0 _ ?hC hc0).mono ?_)
  case hC => exact Kd.C_below HR0.out (by repeat (first | (with_reducible first | exact HB.out | apply below_alloc | apply pw_below_drewN | apply below_drew1) | refine below_set ?_ (by omega)))
  rintro e w3 ⟨vv, r, rfl, hRR, h16, hsm, hdn, hb1⟩
  obtain ⟨A1, c1, rfl, hc1, hC1⟩ := Kd.R_reads hRR
  have HRR := Aside0.mk hRR
  have HC := Aside0.mk hC1
  have HL := Aside0.mk h16
  have HSM := Aside0.mk hsm
  have HDN := Aside0.mk hdn
  clear hdn
  clear hRR hC1 h16 hsm hc0 HR0
  have G : IsBlk w3 w2.heap.size #[.int .i64 nw, .int .i64 t, .int .i64 d, .int .i64 lo, .int .i64 hi, .bool bl] 29 := IsBlk.below (by repeat (first | ((refine IsBlk.new _ _ ?_); (simp; done)) | apply IsBlk.alloc | apply IsBlk.drewN)) hb1
  have hbase : Kd.R k35 35 w3 (w2.heap.size + 1) (fun _ => True) (.slice A1 r.length c1) r := Kd.R_lower HRR.out (by simp)
  clear HRR
  have HRR := Aside0.mk hbase
  clear hbase
  obtain ⟨gG, hgG⟩ : ∃ g, w2.heap.size = g := ⟨_, rfl⟩
  rw [hgG] at G HRR HWG ⊢
  clear hgG
  have G_0 := blk_cell G 0
  have G_1 := blk_cell G 1
  have G_2 := blk_cell G 2
  have G_3 := blk_cell G 3
  have G_4 := blk_cell G 4
  have G_5 := blk_cell G 5
  simp only [List.getElem?_toArray, List.getElem?_cons_zero, List.getElem?_cons_succ] at G_0 G_1 G_2 G_3 G_4 G_5
  have G_l := blk_lt G
  have HG := Aside0.mk G
  clear G
  have n0 := Aside0.mk (below_step (by repeat (first | (with_reducible first | exact HB.out | apply below_alloc | apply pw_below_drewN | apply below_drew1) | refine below_set ?_ (by omega))) hb1)
  clear HB hb1
  have HB := n0
  clear n0
  go_wp2_with fail
  (with_reducible refine (count_q nw t d lo hi bl A1 c1 r _ ?hC hc1 ?h16).mono ?_)
  case hC => exact Kd.C_below HC.out (by repeat (first | (with_reducible first | exact (Below.refl _ _) | apply below_alloc | apply pw_below_drewN | apply below_drew1) | refine below_set ?_ (by omega)))
  case h16 => have := HL.out; omega
  obtain ⟨n0, e1⟩ : ∃ x, cnt (isNew ⟨nw, t, d, lo, hi, bl⟩) r = x := ⟨_, rfl⟩
  rw [e1]
  have HE := Aside0.mk e1
  clear e1
  rintro e w4 ⟨rfl, hb1⟩
  have nR := Aside0.mk (Kd.R_below (by (with_reducible repeat (first | apply Kd.R_alloc | apply Kd.R_drewN | apply Kd.R_drew)); exact HRR.out) hb1)
  clear HRR HC
  have HRR := nR
  clear nR
  have G' := IsBlk.below (by repeat (with_reducible first | exact HG.out | apply IsBlk.alloc | apply IsBlk.drewN | apply IsBlk.drew)) hb1
  clear G_0 G_1 G_2 G_3 G_4 G_5 G_l HG
  have G := G'
  clear G'
  have G_0 := blk_cell G 0
  have G_1 := blk_cell G 1
  have G_2 := blk_cell G 2
  have G_3 := blk_cell G 3
  have G_4 := blk_cell G 4
  have G_5 := blk_cell G 5
  simp only [List.getElem?_toArray, List.getElem?_cons_zero, List.getElem?_cons_succ] at G_0 G_1 G_2 G_3 G_4 G_5
  have G_l := blk_lt G
  have HG := Aside0.mk G
  clear G
  have n0 := Aside0.mk (below_step (by repeat (first | (with_reducible first | exact HB.out | apply below_alloc | apply pw_below_drewN | apply below_drew1) | refine below_set ?_ (by omega))) hb1)
  clear HB hb1
  have HB := n0
  clear n0
  obtain ⟨gR, cR, eR, hgR, hgR2, _⟩ := Kd.R_form HRR.out (by have := HL.out; omega)
  obtain ⟨e1, e2⟩ : A1 = some ⟨gR, 0, none⟩ ∧ c1 = cR := by cases eR; exact ⟨rfl, rfl⟩
  subst e1 e2
  clear eR
  have hne : gG ≠ gR := by omega
  have hwR : w.heap.size ≤ gR := by have := below_size (by repeat (first | (with_reducible first | exact HB.out | apply below_alloc | apply pw_below_drewN | apply below_drew1) | refine below_set ?_ (by omega))); have h3 : w.heap.size ≤ gG := HWG.out; omega
  go_wp2_with fail
  go_loopw [9, 13] (fun v9 v13 wr => ∃ (j : Nat) (n : Int) (l1 : List S35), v13 = .int .i64 j ∧ v9 = .int .i64 n ∧ j ≤ 16 ∧ Aside0 (Kd.R k35 35 wr (gG + 1) (fun _ => True) (.slice (some ⟨gR, 0, none⟩) r.length c1) l1) ∧ Aside0 (l1.length = 16) ∧ Aside0 (Done l1) ∧ Aside0 (cnt (isNew ⟨nw, t, d, lo, hi, bl⟩) l1 = n) ∧ Aside0 (t < n → ∀ q, q < j → isNew ⟨nw, t, d, lo, hi, bl⟩ (at_ l1 q) = false) ∧ Aside0 (IsBlk wr gG #[.int .i64 nw, .int .i64 t, .int .i64 d, .int .i64 lo, .int .i64 hi, .bool bl] 29) ∧ Aside0 (Below w.heap.size w wr)) (fun _ v13 _ => 16 - (intOf v13).toNat)
  case atStart => exact ⟨0, n0, r, rfl, rfl, by omega, ⟨(by (with_reducible repeat (first | apply Kd.R_alloc | apply Kd.R_drewN | apply Kd.R_drew)); exact HRR.out)⟩, HL, HDN, HE, ⟨fun _ q hq => absurd hq (Nat.not_lt_zero _)⟩, ⟨(by repeat (with_reducible first | exact HG.out | apply IsBlk.alloc | apply IsBlk.drewN | apply IsBlk.drew))⟩, ⟨by repeat (first | (with_reducible first | exact HB.out | apply below_alloc | apply pw_below_drewN | apply below_drew1) | refine below_set ?_ (by omega))⟩⟩
  case round =>
    clear HRR HL HDN HE HB HSM hc1 hgR2
    clear G_0 G_1 G_2 G_3 G_4 G_5 G_l HG
    obtain ⟨j, n, l1, rfl, rfl, hj, HRR, HL, HDN, HE, HNO, HG0, HB⟩ := hrel
    obtain ⟨wq, hwq⟩ : ∃ x, x = wr := ⟨_, rfl⟩
    subst hwq
    have G := HG0.out
    clear HG0
    have G_0 := blk_cell G 0
    have G_1 := blk_cell G 1
    have G_2 := blk_cell G 2
    have G_3 := blk_cell G 3
    have G_4 := blk_cell G 4
    have G_5 := blk_cell G 5
    simp only [List.getElem?_toArray, List.getElem?_cons_zero, List.getElem?_cons_succ] at G_0 G_1 G_2 G_3 G_4 G_5
    have G_l := blk_lt G
    have HG := Aside0.mk G
    clear G
    have hnb : 0 ≤ n ∧ n ≤ 16 := by
      have h1 := cnt_bound (isNew ⟨nw, t, d, lo, hi, bl⟩) l1
      have h2 := HL.out
      have h3 := HE.out
      omega
    by_cases hlt : j < 16
    · have hd : decide ((j : Int) < 16) = true := by simp; omega
      cases ht : decide (t < n)
      · have ht' : ¬ t < n := by simpa using ht
        have hcn : cnt (isNew ⟨nw, t, d, lo, hi, bl⟩) l1 ≤ t := by
          rw [HE.out]
          omega
        have HN := Aside0.mk hcn
        have hrl : r.length = l1.length := (Kd.R_reads' HRR.out).1
        have hCC := (Kd.R_reads' HRR.out).2.2
        have HC1 := Aside0.mk (Nat.le_trans (Nat.le_of_eq (Kd.R_reads' HRR.out).1.symm) (Kd.R_reads' HRR.out).2.1)
        have HC := Aside0.mk hCC
        clear hcn hCC HRR
        go_wp2_with fail
        (try rw [hrl])
        clear hrl
        (with_reducible refine (run_q nw t d lo hi bl (some ⟨gR, 0, none⟩) c1 l1 _ ?hC ?hc HL.out HOK.out HDN.out HN.out).mono ?_)
        case hC => exact Kd.C_below HC.out (by repeat (first | (with_reducible first | exact (Below.refl _ _) | apply below_alloc | apply pw_below_drewN | apply below_drew1) | refine below_set ?_ (by omega)))
        case hc => exact HC1.out
        rintro e w5 ⟨A2, c2, l2, m, i, v, rfl, hc2, h16, hC2, hd2, hx2, hf2, ho2, hb1⟩
        have G' := IsBlk.below (by repeat (with_reducible first | exact HG.out | apply IsBlk.alloc | apply IsBlk.drewN | apply IsBlk.drew)) hb1
        clear G_0 G_1 G_2 G_3 G_4 G_5 G_l HG
        have G := G'
        clear G'
        have G_0 := blk_cell G 0
        have G_1 := blk_cell G 1
        have G_2 := blk_cell G 2
        have G_3 := blk_cell G 3
        have G_4 := blk_cell G 4
        have G_5 := blk_cell G 5
        simp only [List.getElem?_toArray, List.getElem?_cons_zero, List.getElem?_cons_succ] at G_0 G_1 G_2 G_3 G_4 G_5
        have G_l := blk_lt G
        have HG := Aside0.mk G
        clear G
        have n0 := Aside0.mk (below_step (by repeat (first | (with_reducible first | exact HB.out | apply below_alloc | apply pw_below_drewN | apply below_drew1) | refine below_set ?_ (by omega))) hb1)
        clear HB hb1
        have HB := n0
        clear n0
        have HC2 := Aside0.mk hC2
        have HL2 := Aside0.mk h16
        have HD2 := Aside0.mk hd2
        have HX2 := Aside0.mk hx2
        have HF2 := Aside0.mk hf2
        have HO2 := Aside0.mk ho2
        clear hC2 h16 hd2 hx2 hf2 ho2
        go_wp2_with fail
        (with_reducible refine (reached_q nw t d lo hi bl A2 c2 l2 _ ?hC hc2 ?h16 HD2.out HX2.out HF2.out HO2.out).mono ?_)
        case hC => exact Kd.C_below HC2.out (by repeat (first | (with_reducible first | exact (Below.refl _ _) | apply below_alloc | apply pw_below_drewN | apply below_drew1) | refine below_set ?_ (by omega)))
        case h16 => have := HL2.out; omega
        rintro e w6 ⟨rfl, hb1⟩
        have nC := Aside0.mk (Kd.C_below (Kd.C_below HC2.out (by repeat (first | (with_reducible first | exact (Below.refl _ _) | apply below_alloc | apply pw_below_drewN | apply below_drew1) | refine below_set ?_ (by omega)))) hb1)
        clear HC2
        have HC2 := nC
        clear nC
        have n0 := Aside0.mk (below_step (by repeat (first | (with_reducible first | exact HB.out | apply below_alloc | apply pw_below_drewN | apply below_drew1) | refine below_set ?_ (by omega))) hb1)
        clear HB hb1
        have HB := n0
        clear n0
        go_wp2_with fail
        (with_reducible refine (waits_q A2 c2 l2 _ ?hC hc2 ?h16).mono ?_)
        case hC => exact Kd.C_below HC2.out (by repeat (first | (with_reducible first | exact (Below.refl _ _) | apply below_alloc | apply pw_below_drewN | apply below_drew1) | refine below_set ?_ (by omega)))
        case h16 => have := HL2.out; omega
        rintro e w7 ⟨vv, r2, rfl, hR3, _, hr0, _, hb1⟩
        obtain rfl : r2 = [] := hr0.2 HD2.out
        obtain ⟨A3, c3, rfl, _, _⟩ := Kd.R_reads hR3
        clear hr0 hR3
        have n0 := Aside0.mk (below_step (by repeat (first | (with_reducible first | exact HB.out | apply below_alloc | apply pw_below_drewN | apply below_drew1) | refine below_set ?_ (by omega))) hb1)
        clear HB hb1
        have HB := n0
        clear n0
        go_wp2
        go_ret
        exact ⟨rfl, by repeat (first | (with_reducible first | exact HB.out | apply below_alloc | apply pw_below_drewN | apply below_drew1) | refine below_set ?_ (by omega))⟩
      · have ht' : t < n := by simpa using ht
        have hj0 : (0 : Int) ≤ (j : Int) := by omega
        have hjl : (j : Int) < (r.length : Int) := by have := (Kd.R_reads' HRR.out).1; have := HL.out; omega
        obtain ⟨ce, hcl, hM, hcc, hfr⟩ := Kd.R_elem HRR.out z35 (j : Int) hj0 hjl
        have hx : l1.getD ((j : Int)).toNat z35 = at_ l1 j := by rw [Int.toNat_natCast]; rfl
        rw [hx] at hM
        obtain ⟨x0, x1, x2, hat⟩ : ∃ x0 x1 x2, at_ l1 j = ⟨x0, x1, x2⟩ := ⟨_, _, _, rfl⟩
        rw [hat] at hM
        obtain rfl := PPlanEnds.k35_openM hM
        have e0 : wq.cell? ⟨gR, j * 3, none⟩ = some (.int .i64 x0) := hcc 0 _ rfl
        have f0 : wq.frozen? ⟨gR, j * 3, none⟩ = false := hfr 0
        have hpos : 0 < nw := by
          have h1 := HE.out
          have h2 := HOK.out.t0
          dsimp only at h2
          obtain ⟨q, hq, hp⟩ := cnt_some (p := isNew ⟨nw, t, d, lo, hi, bl⟩) (l := l1) (by omega)
          unfold isNew at hp
          simp at hp
          omega
        have HAT := Aside0.mk hat
        have HCC := Aside0.mk hcc
        have HFR := Aside0.mk hfr
        clear hat hcc hfr hM hx hcl
        go_upto_region 9 with fail
        refine start_ (n := 8) (S := fun w' => w'.cell? ⟨gR, j * 3, none⟩ = some (.int .i64 x0) ∧ w'.cell? ⟨gG, 0, none⟩ = some (.int .i64 nw)) (ds := []) #[false, false, false, false, false, false, false, false] (by kernel_rfl) rfl rfl ⟨e0, G_0⟩ (fun hHeld => ?_)
        refine pure_ (i := 0) (N := some 42) (v := ?_) (a' := ?_) #[true, false, false, false, false, false, false, false] rfl rfl (by kernel_rfl) (fun _ _ _ h => h) (Or.inl ⟨by rfl, ?_⟩) ?_ ?_
        rotate_left
        · intro w'
          go_simp
          with_reducible rfl
        rotate_left
        · simp only [Act.put, List.setIfInBounds_toArray, List.set_cons_zero, List.set_cons_succ, i64_w, i32_w]
          rfl
        refine pure_ (i := 1) (N := some 43) (v := ?_) (a' := ?_) #[true, true, false, false, false, false, false, false] rfl rfl (by kernel_rfl) (fun _ _ _ h => h) (Or.inl ⟨by rfl, ?_⟩) ?_ ?_
        rotate_left
        · intro w'
          go_simp
          with_reducible rfl
        rotate_left
        · simp only [Act.put, List.setIfInBounds_toArray, List.set_cons_zero, List.set_cons_succ, i64_w, i32_w]
          rfl
        refine pure_ (i := 2) (N := some 44) (v := ?_) (a' := ?_) #[true, true, true, false, false, false, false, false] rfl rfl (by kernel_rfl) (fun _ _ _ h => h) (Or.inl ⟨by rfl, ?_⟩) ?_ ?_
        rotate_left
        · intro w'
          go_simp
          with_reducible rfl
        rotate_left
        · simp only [Act.put, List.setIfInBounds_toArray, List.set_cons_zero, List.set_cons_succ, i64_w, i32_w]
          rfl
        refine pure_ (i := 3) (N := some 45) (v := ?_) (a' := ?_) #[true, true, true, true, false, false, false, false] rfl rfl (by kernel_rfl) (fun _ _ _ h => h) (Or.inl ⟨by rfl, ?_⟩) ?_ ?_
        rotate_left
        · intro w'
          go_simp
          with_reducible rfl
        rotate_left
        · simp only [Act.put, List.setIfInBounds_toArray, List.set_cons_zero, List.set_cons_succ, i64_w, i32_w]
          rfl
        refine pure_ (i := 5) (N := some 47) (v := ?_) (a' := ?_) #[true, true, true, true, false, true, false, false] rfl rfl (by kernel_rfl) (fun _ _ _ h => h) (Or.inl ⟨by rfl, ?_⟩) ?_ ?_
        rotate_left
        · intro w'
          go_simp
          with_reducible rfl
        rotate_left
        · simp only [Act.put, List.setIfInBounds_toArray, List.set_cons_zero, List.set_cons_succ, i64_w, i32_w]
          rfl
        refine take_ (i := 4) (N := some 46) (v := ?_) (a' := ?_) #[true, true, true, true, true, true, false, false] rfl rfl (by kernel_rfl) (fun _ _ _ h => h) (Or.inl ⟨by rfl, ?_⟩) hHeld ?_ ?_
        rotate_left
        · rintro w' ⟨s0, s1⟩
          go_simp
          with_reducible rfl
        rotate_left
        · simp only [Act.put, List.setIfInBounds_toArray, List.set_cons_zero, List.set_cons_succ, i64_w, i32_w]
          rfl
        refine take_ (i := 6) (N := some 48) (v := ?_) (a' := ?_) #[true, true, true, true, true, true, true, false] rfl rfl (by kernel_rfl) (fun _ _ _ h => h) (Or.inl ⟨by rfl, ?_⟩) hHeld ?_ ?_
        rotate_left
        · rintro w' ⟨s0, s1⟩
          go_simp
          with_reducible rfl
        rotate_left
        · simp only [Act.put, List.setIfInBounds_toArray, List.set_cons_zero, List.set_cons_succ, i64_w, i32_w]
          rfl
        refine pure_ (i := 7) (N := some 49) (v := ?_) (a' := ?_) #[true, true, true, true, true, true, true, true] rfl rfl (by kernel_rfl) (fun _ _ _ h => h) (Or.inl ⟨by rfl, ?_⟩) ?_ ?_
        rotate_left
        · intro w'
          go_simp
          with_reducible rfl
        rotate_left
        · simp only [Act.put, List.setIfInBounds_toArray, List.set_cons_zero, List.set_cons_succ, i64_w, i32_w]
          rfl
        refine done_ (by kernel_rfl) ?_
        cases hz : (x0 == nw)
        · have hno : isNew ⟨nw, t, d, lo, hi, bl⟩ (at_ l1 j) = false := by rw [HAT.out]; unfold isNew; rw [hz]; simp
          have hn2 : t < n → ∀ q, q < j + 1 → isNew ⟨nw, t, d, lo, hi, bl⟩ (at_ l1 q) = false := by
            intro h q hq
            by_cases e : q = j
            · rw [e]; exact hno
            · exact HNO.out h q (by omega)
          have HN2 := Aside0.mk hn2
          clear hno hn2 HNO
          go_wp2
          go_roundw
          case rel => exact ⟨j + 1, n, l1, by go_num, rfl, by omega, ⟨(by (with_reducible repeat (first | apply Kd.R_alloc | apply Kd.R_drewN | apply Kd.R_drew)); exact HRR.out)⟩, HL, HDN, HE, HN2, ⟨(by repeat (with_reducible first | exact HG.out | apply IsBlk.alloc | apply IsBlk.drewN | apply IsBlk.drew))⟩, ⟨by repeat (first | (with_reducible first | exact HB.out | apply below_alloc | apply pw_below_drewN | apply below_drew1) | refine below_set ?_ (by omega))⟩⟩
          case measure => simp [intOf]; omega
        · have hz' : x0 = nw := by simpa using hz
          have hyes : isNew ⟨nw, t, d, lo, hi, bl⟩ (at_ l1 j) = true := by rw [HAT.out]; unfold isNew; rw [hz, hz']; simp [hpos]
          have hjn : j < l1.length := by have := HL.out; omega
          have hcs : cnt (isNew ⟨nw, t, d, lo, hi, bl⟩) (l1.set j ⟨0, x1, x2⟩) = n - 1 := by
            rw [cnt_set _ _ _ hjn, hyes, HE.out]
            have e3 : isNew ⟨nw, t, d, lo, hi, bl⟩ ⟨0, x1, x2⟩ = false := by unfold isNew; simp
            rw [e3]
            simp
          have hds : Done (l1.set j ⟨0, x1, x2⟩) := by
            intro q hq
            rw [at_set hjn]
            split
            · have := HDN.out j hjn
              rw [HAT.out] at this
              exact this
            · exact HDN.out q (by simpa using hq)
          have hn2 : t < n - 1 → ∀ q, q < j + 1 → isNew ⟨nw, t, d, lo, hi, bl⟩ (at_ (l1.set j ⟨0, x1, x2⟩) q) = false := by
            intro h q hq
            rw [at_set hjn]
            split
            · unfold isNew; simp
            · exact HNO.out (by omega) q (by omega)
          have hrow := fun (W : World) (h : Kd.R k35 35 W (gG + 1) (fun _ => True) (.slice (some ⟨gR, 0, none⟩) r.length c1) l1) (hcc : ∀ (j' : Nat) (u : Value), [Value.int .i64 x0, .int .i64 x1, .bool x2][j']? = some u → W.cell? ⟨gR, ((j : Int)).toNat * k35.sz + j', none⟩ = some u) => (Kd.R_seg h (j : Int) hj0 hjl (seg := [.int .i64 0]) (j := 0) rfl hcc (by decide : 1 ≤ 3) (x' := (⟨0, x1, x2⟩ : S35)) (PPlanEnds.k35_mkM _ _ _ _) (fun _ hk => hk)).1
          have HROW := Aside0.mk hrow
          have hl2 : (l1.set j ⟨0, x1, x2⟩).length = 16 := by rw [List.length_set]; exact HL.out
          have HL2 := Aside0.mk hl2
          have HCS := Aside0.mk hcs
          have HDS := Aside0.mk hds
          have HN2 := Aside0.mk hn2
          clear hrow hl2 hcs hds hn2 hyes hz' HNO
          go_wp2
          go_roundw
          case rel =>
            refine ⟨j + 1, n - 1, l1.set j ⟨0, x1, x2⟩, by go_num, by go_num, by omega, ⟨?_⟩, HL2, HDS, HCS, HN2, ⟨by repeat (first | (with_reducible first | exact HG.out | apply IsBlk.alloc | apply IsBlk.drewN | apply IsBlk.drew) | refine IsBlk.far ?_ hne _)⟩, ⟨by repeat (first | (with_reducible first | exact HB.out | apply below_alloc | apply pw_below_drewN | apply below_drew1) | refine below_set ?_ hwR)⟩⟩
            have h := HROW.out wq HRR.out HCC.out
            rw [Int.toNat_natCast] at h
            refine Kd.R_move h (fun q _ => ?_)
            rfl
          case measure => simp [intOf]; omega
    · have hd : decide ((j : Int) < 16) = false := by simp; omega
      obtain rfl : j = 16 := by omega
      have hcn : cnt (isNew ⟨nw, t, d, lo, hi, bl⟩) l1 ≤ t := by
        rw [HE.out]
        rcases Int.lt_or_le t n with h | h
        · have h0 : cnt (isNew ⟨nw, t, d, lo, hi, bl⟩) l1 = 0 := cnt_none (fun q hq => HNO.out h q (by have := HL.out; omega))
          have h1 := HE.out
          have h2 := HOK.out.t0
          dsimp only at h2
          omega
        · exact h
      have HN := Aside0.mk hcn
      have hrl : r.length = l1.length := (Kd.R_reads' HRR.out).1
      have hCC := (Kd.R_reads' HRR.out).2.2
      have HC1 := Aside0.mk (Nat.le_trans (Nat.le_of_eq (Kd.R_reads' HRR.out).1.symm) (Kd.R_reads' HRR.out).2.1)
      have HC := Aside0.mk hCC
      clear hcn hCC HRR
      go_wp2_with fail
      (try rw [hrl])
      clear hrl
      (with_reducible refine (run_q nw t d lo hi bl (some ⟨gR, 0, none⟩) c1 l1 _ ?hC ?hc HL.out HOK.out HDN.out HN.out).mono ?_)
      case hC => exact Kd.C_below HC.out (by repeat (first | (with_reducible first | exact (Below.refl _ _) | apply below_alloc | apply pw_below_drewN | apply below_drew1) | refine below_set ?_ (by omega)))
      case hc => exact HC1.out
      rintro e w5 ⟨A2, c2, l2, m, i, v, rfl, hc2, h16, hC2, hd2, hx2, hf2, ho2, hb1⟩
      have G' := IsBlk.below (by repeat (with_reducible first | exact HG.out | apply IsBlk.alloc | apply IsBlk.drewN | apply IsBlk.drew)) hb1
      clear G_0 G_1 G_2 G_3 G_4 G_5 G_l HG
      have G := G'
      clear G'
      have G_0 := blk_cell G 0
      have G_1 := blk_cell G 1
      have G_2 := blk_cell G 2
      have G_3 := blk_cell G 3
      have G_4 := blk_cell G 4
      have G_5 := blk_cell G 5
      simp only [List.getElem?_toArray, List.getElem?_cons_zero, List.getElem?_cons_succ] at G_0 G_1 G_2 G_3 G_4 G_5
      have G_l := blk_lt G
      have HG := Aside0.mk G
      clear G
      have n0 := Aside0.mk (below_step (by repeat (first | (with_reducible first | exact HB.out | apply below_alloc | apply pw_below_drewN | apply below_drew1) | refine below_set ?_ (by omega))) hb1)
      clear HB hb1
      have HB := n0
      clear n0
      have HC2 := Aside0.mk hC2
      have HL2 := Aside0.mk h16
      have HD2 := Aside0.mk hd2
      have HX2 := Aside0.mk hx2
      have HF2 := Aside0.mk hf2
      have HO2 := Aside0.mk ho2
      clear hC2 h16 hd2 hx2 hf2 ho2
      go_wp2_with fail
      (with_reducible refine (reached_q nw t d lo hi bl A2 c2 l2 _ ?hC hc2 ?h16 HD2.out HX2.out HF2.out HO2.out).mono ?_)
      case hC => exact Kd.C_below HC2.out (by repeat (first | (with_reducible first | exact (Below.refl _ _) | apply below_alloc | apply pw_below_drewN | apply below_drew1) | refine below_set ?_ (by omega)))
      case h16 => have := HL2.out; omega
      rintro e w6 ⟨rfl, hb1⟩
      have nC := Aside0.mk (Kd.C_below (Kd.C_below HC2.out (by repeat (first | (with_reducible first | exact (Below.refl _ _) | apply below_alloc | apply pw_below_drewN | apply below_drew1) | refine below_set ?_ (by omega)))) hb1)
      clear HC2
      have HC2 := nC
      clear nC
      have n0 := Aside0.mk (below_step (by repeat (first | (with_reducible first | exact HB.out | apply below_alloc | apply pw_below_drewN | apply below_drew1) | refine below_set ?_ (by omega))) hb1)
      clear HB hb1
      have HB := n0
      clear n0
      go_wp2_with fail
      (with_reducible refine (waits_q A2 c2 l2 _ ?hC hc2 ?h16).mono ?_)
      case hC => exact Kd.C_below HC2.out (by repeat (first | (with_reducible first | exact (Below.refl _ _) | apply below_alloc | apply pw_below_drewN | apply below_drew1) | refine below_set ?_ (by omega)))
      case h16 => have := HL2.out; omega
      rintro e w7 ⟨vv, r2, rfl, hR3, _, hr0, _, hb1⟩
      obtain rfl : r2 = [] := hr0.2 HD2.out
      obtain ⟨A3, c3, rfl, _, _⟩ := Kd.R_reads hR3
      clear hr0 hR3
      have n0 := Aside0.mk (below_step (by repeat (first | (with_reducible first | exact HB.out | apply below_alloc | apply pw_below_drewN | apply below_drew1) | refine below_set ?_ (by omega))) hb1)
      clear HB hb1
      have HB := n0
      clear n0
      go_wp2
      go_ret
      exact ⟨rfl, by repeat (first | (with_reducible first | exact HB.out | apply below_alloc | apply pw_below_drewN | apply below_drew1) | refine below_set ?_ (by omega))⟩

theorem walk (v0 d0 s0 u0 st0 p0 p1 p2 p3 q0 q1 q2 a0 a1 : Int) (A0 : Option Addr) (k0 : Nat) (l0 : List (Int × Int × Bool)) (w : World) (h1 : O.Rowz O.Is35 3 w A0 l0) (h2 : l0.length ≤ k0) : Calls Try.prog 5 #[.agg #[.int .i64 v0, .int .i64 d0, .int .i64 s0, .int .i64 u0, .int .i64 st0, .int .i64 p0, .int .i64 p1, .int .i64 p2, .int .i64 p3, .int .i64 q0, .int .i64 q1, .int .i64 q2], .agg #[.int .i64 a0, .int .i64 a1], .slice A0 l0.length k0] w fun e w' => e = .returned (.bool true) ∧ Below w.heap.size w w' := by
  have h := law v0 d0 s0 u0 st0 p0 p1 p2 p3 q0 q1 q2 a0 a1 A0 k0 (l0.map toS) w (C_of_Rowz h1) (by simpa using h2)
  rw [List.length_map] at h
  exact h
end Go.Proofs.Ytloljhopccpeeaa.WalkPlanEnds

