/-
  Proved here: what pacesetterlaw19.PlanWaits returns, whatever the input: true. No condition.
-/
import Derived.Test.YtloljhopccpeeaaQ5
import Derived.Test.YtloljhopccpeeaaO
namespace Go.Proofs.Ytloljhopccpeeaa.WalkPlanWaits
open Go.RowKit Go.Sort Go.Proofs.Ytloljhopccpeeaa.B0 Go.Proofs.Ytloljhopccpeeaa.Pl Go.Proofs.Ytloljhopccpeeaa.Pl2 Go.Proofs.Ytloljhopccpeeaa.Q1 Go.Proofs.Ytloljhopccpeeaa.Q2 Go.Proofs.Ytloljhopccpeeaa.Q3 Go.Proofs.Ytloljhopccpeeaa.Q4 Go.Proofs.Ytloljhopccpeeaa.Q5 Go.Proofs.YtloljhopccpeeaaW.PrintWords Go.Proofs.YtloljhopccpeeaaW.PrintLast Go.Proofs.YtloljhopccpeeaaW.PrintMore
open PPlanEnds (S35 z35 k35)
set_option linter.unusedVariables false
set_option linter.unusedSimpArgs false
attribute [local go_sem] max2_int min2_int max_two min_two

def toS (p : Int × Int × Bool) : S35 := ⟨p.1, p.2.1, p.2.2⟩
theorem C_of_Rowz {w : World} {A : Option Addr} {ps : List (Int × Int × Bool)} (h : O.Rowz O.Is35 3 w A ps) : Kd.C k35 w A (ps.map toS).length (ps.map toS) := by
  refine ⟨rfl, by simpa [maxLen] using Nat.le_trans h.1 (by decide), fun hn => ?_⟩
  obtain ⟨ad, e, hc⟩ := h.2 (by simpa using hn)
  refine ⟨ad, e, fun j p hj => ?_⟩
  rw [List.getElem?_map] at hj
  obtain ⟨x, hx, rfl⟩ := Option.map_eq_some_iff.1 hj
  obtain ⟨c, h1, h2, h3⟩ := hc j x hx
  refine ⟨c, h1, ?_, fun i u hu => ?_⟩
  · rw [h2.1]
    exact PPlanEnds.k35_mk w (toS x)
  · have := h3 i u hu
    rwa [add_add] at this

theorem done_law {l : List S35} {j : Nat} (hj : j < l.length) {x0 x1 : Int} (hat : at_ l j = ⟨x0, x1, false⟩) : cnt isThere (l.set j ⟨x0, x1, true⟩) ≤ cnt isThere l ∧ cnt isUp l ≤ cnt isUp (l.set j ⟨x0, x1, true⟩) := by
  rw [cnt_set _ _ _ hj, cnt_set _ _ _ hj, hat]
  have e1 : isThere ⟨x0, x1, false⟩ = true := by unfold isThere; simp
  have e2 : isUp ⟨x0, x1, false⟩ = false := by unfold isUp; simp
  rw [e1, e2]
  simp only [Bool.false_eq_true, if_false, if_true]
  constructor <;> split <;> omega
theorem C_ints {w : World} {A : Option Addr} {ps : List Int} (h : O.Rowz O.Is3 1 w A ps) : Kd.C (Kd.int .i64) w A ps.length ps := by
  refine ⟨rfl, by simpa [maxLen] using Nat.le_trans h.1 (by decide), fun hn => ?_⟩
  obtain ⟨ad, e, hc⟩ := h.2 hn
  refine ⟨ad, e, fun j p hj => ?_⟩
  obtain ⟨c, h1, h2, h3⟩ := hc j p hj
  refine ⟨c, h1, h2.1, fun i u hu => ?_⟩
  have := h3 i u hu
  rwa [add_add] at this
theorem int_at {w : World} {A : Option Addr} {n : Nat} {xs : List Int} (hC : Kd.C (Kd.int .i64) w A n xs) (k : Nat) (hk : k < n) : ∃ (rb ro : Nat), A = some ⟨rb, ro, none⟩ ∧ rb < w.heap.size ∧ w.cell? ⟨rb, ro + k, none⟩ = some (.int .i64 (xs.getD k 0)) := by
  obtain ⟨ad0, cs0, e_, hl0, hK0, hcell0⟩ := Kd.C_get hC 0 0 (by omega) (by omega)
  obtain ⟨ad, cs, e2_, hl, hK, hcell⟩ := Kd.C_get hC 0 (k : Int) (by omega) (by omega)
  obtain rfl : ad0 = ad := by rw [e_] at e2_; exact Option.some.inj e2_
  have hK0' : cs0 = [Value.int .i64 (xs.getD (Int.toNat 0) 0)] := hK0
  have hK' : cs = [Value.int .i64 (xs.getD (Int.toNat (k : Int)) 0)] := hK
  subst hK0' hK'
  have g0 := hcell0 0 _ rfl
  have e0 := hcell 0 _ rfl
  rw [show Int.toNat 0 * (Kd.int .i64).sz + 0 = 0 from rfl, show ad0.add 0 = ad0 from rfl] at g0
  have hsp := World.cell?_spot g0
  obtain ⟨rb, ro, sp⟩ := ad0
  dsimp only at hsp
  subst hsp
  have hadd : ∀ j, (⟨rb, ro, none⟩ : Addr).add j = ⟨rb, ro + j, none⟩ := fun j => by unfold Addr.add; split <;> simp_all
  rw [show Int.toNat (k : Int) * (Kd.int .i64).sz + 0 = k by simp [Kd.int, Kd.scalar], hadd] at e0
  exact ⟨rb, ro, e_, World.block_lt_of_cell? w _ e0, by simpa using e0⟩

set_option maxRecDepth 100000 in
set_option maxHeartbeats 16000000 in
theorem law (v0 d0 s0 u0 st0 p0 p1 p2 p3 q0 q1 q2 : Int) (A0 : Option Addr) (k0 : Nat) (l0 : List S35) (A9 : Option Addr) (k9 : Nat) (xs : List Int) (w : World) (hr0 : Kd.C k35 w A0 l0.length l0) (hc0 : l0.length ≤ k0) (hr9 : Kd.C (Kd.int .i64) w A9 xs.length xs) (hc9 : xs.length ≤ k9) : Calls Try.prog 6 #[.agg #[.int .i64 v0, .int .i64 d0, .int .i64 s0, .int .i64 u0, .int .i64 st0, .int .i64 p0, .int .i64 p1, .int .i64 p2, .int .i64 p3, .int .i64 q0, .int .i64 q1, .int .i64 q2], .slice A0 l0.length k0, .slice A9 xs.length k9] w fun e w' => e = .returned (.bool true) ∧ Below w.heap.size w w' := by
  have HB := Aside0.mk (Below.refl w.heap.size w)
  have HR0 := Aside0.mk hr0
  have HR9 := Aside0.mk hr9
  have hxm : (xs.length : Int) ≤ 9223372036854775807 := by have := hr9.2.1; omega
  clear hr0 hr9
  go_enter Try.func6, Try.ntmps6
  go_wp2_with fail
  (with_reducible refine (lives_q _).mono ?_)
  rintro e w1 ⟨rfl, hb1⟩
  have D : IsBlk w1 w.heap.size #[.int .i64 v0, .int .i64 d0, .int .i64 s0, .int .i64 u0, .int .i64 st0, .int .i64 p0, .int .i64 p1, .int .i64 p2, .int .i64 p3, .int .i64 q0, .int .i64 q1, .int .i64 q2] 24 := IsBlk.below (by repeat (first | ((refine IsBlk.new _ _ ?_); (simp; done)) | apply IsBlk.alloc | apply IsBlk.drewN)) hb1
  have D_0 := blk_cell D 0
  have D_1 := blk_cell D 1
  have D_2 := blk_cell D 2
  have D_3 := blk_cell D 3
  have D_4 := blk_cell D 4
  have D_5 := blk_cell D 5
  have D_6 := blk_cell D 6
  have D_7 := blk_cell D 7
  have D_8 := blk_cell D 8
  have D_9 := blk_cell D 9
  have D_10 := blk_cell D 10
  have D_11 := blk_cell D 11
  simp only [List.getElem?_toArray, List.getElem?_cons_zero, List.getElem?_cons_succ] at D_0 D_1 D_2 D_3 D_4 D_5 D_6 D_7 D_8 D_9 D_10 D_11
  have D_l := blk_lt D
  have HD := Aside0.mk D
  clear D
  have n0 := Aside0.mk (below_step (by repeat (first | (with_reducible first | exact HB.out | apply below_alloc | apply pw_below_drewN | apply below_drew1) | refine below_set ?_ (by omega))) hb1)
  clear HB hb1
  have HB := n0
  clear n0
  have P0 : IsBlk (w1.alloc (.cells #[.int .i64 0, .int .i64 0] 25)) w1.heap.size #[.int .i64 0, .int .i64 0] 25 := IsBlk.new _ _ rfl
  have D0 : IsBlk (w1.alloc (.cells #[.int .i64 0, .int .i64 0] 25)) w.heap.size #[.int .i64 v0, .int .i64 d0, .int .i64 s0, .int .i64 u0, .int .i64 st0, .int .i64 p0, .int .i64 p1, .int .i64 p2, .int .i64 p3, .int .i64 q0, .int .i64 q1, .int .i64 q2] 24 := (by repeat (with_reducible first | exact HD.out | apply IsBlk.alloc | apply IsBlk.drewN | apply IsBlk.drew))
  have n0 : Below w.heap.size w (w1.alloc (.cells #[.int .i64 0, .int .i64 0] 25)) := (by repeat (first | (with_reducible first | exact HB.out | apply below_alloc | apply pw_below_drewN | apply below_drew1) | refine below_set ?_ (by omega)))
  have hneD : w.heap.size ≠ w1.heap.size := by omega
  have hwA : w.heap.size ≤ w1.heap.size := by omega
  clear D_0 D_1 D_2 D_3 D_4 D_5 D_6 D_7 D_8 D_9 D_10 D_11 D_l HD
  clear HB
  go_upto_block 0 with fail
  generalize w1.alloc (.cells #[.int .i64 0, .int .i64 0] 25) = wa at *
  generalize w1.heap.size = gA at *
  have HP := Aside0.mk P0
  have HD := Aside0.mk D0
  have HB := Aside0.mk n0
  clear P0 D0 n0
  go_cut [8] (fun v8 wc => ∃ a0 a1 : Int, Aside0 (IsBlk wc gA #[.int .i64 a0, .int .i64 a1] 25) ∧ Aside0 (IsBlk wc w.heap.size #[.int .i64 v0, .int .i64 d0, .int .i64 s0, .int .i64 u0, .int .i64 st0, .int .i64 p0, .int .i64 p1, .int .i64 p2, .int .i64 p3, .int .i64 q0, .int .i64 q1, .int .i64 q2] 24) ∧ Aside0 (Below w.heap.size w wc))
  case first =>
    go_wp2_with fail
    go_loopw [8] (fun v8 wr => ∃ (i a0 a1 : Int), v8 = .int .i64 i ∧ 0 ≤ i ∧ i ≤ 2 ∧ Aside0 (IsBlk wr gA #[.int .i64 a0, .int .i64 a1] 25) ∧ Aside0 (IsBlk wr w.heap.size #[.int .i64 v0, .int .i64 d0, .int .i64 s0, .int .i64 u0, .int .i64 st0, .int .i64 p0, .int .i64 p1, .int .i64 p2, .int .i64 p3, .int .i64 q0, .int .i64 q1, .int .i64 q2] 24) ∧ Aside0 (Below w.heap.size w wr)) (fun v8 _ => 2 - (intOf v8).toNat)
    case atStart => exact ⟨0, 0, 0, rfl, by omega, by omega, HP, HD, HB⟩
    case round =>
      clear HP HD HB
      obtain ⟨i, a0, a1, rfl, hi0, hi, HP, HD, HB⟩ := hrel
      obtain ⟨wq, hwq⟩ : ∃ x, x = wr := ⟨_, rfl⟩
      subst hwq
      have P := HP.out
      clear HP
      have P_0 := blk_cell P 0
      have P_1 := blk_cell P 1
      simp only [List.getElem?_toArray, List.getElem?_cons_zero, List.getElem?_cons_succ] at P_0 P_1
      have P_z0 := blk_frozen P 0
      have P_z1 := blk_frozen P 1
      have P_l := blk_lt P
      have HP := Aside0.mk P
      clear P
      by_cases hlx : i < (xs.length : Int)
      · have hd : decide (i < (xs.length : Int)) = true := by simpa using hlx
        rcases (by omega : i = 0 ∨ i = 1 ∨ i = 2) with rfl | rfl | rfl
        · have hdn : decide (0 < xs.length) = true := by simp; omega
          have hlp : 0 < xs.length := by omega
          have hlpi : (0 : Int) < (xs.length : Int) := by omega
          obtain ⟨rb, ro, eA, hrb, hx⟩ := int_at (Kd.C_below HR9.out HB.out) 0 (by omega)
          obtain ⟨x, hxe⟩ : ∃ x, xs.getD 0 0 = x := ⟨_, rfl⟩
          rw [hxe] at hx
          rw [Nat.add_zero] at hx
          subst eA
          clear hxe hlx hi0 hi
          go_wp2
          go_roundw
          case rel => exact ⟨1, x, a1, rfl, by omega, by omega, ⟨blk_set HP.out 0 _⟩, ⟨HD.out.far (p := ⟨gA, 0, none⟩) hneD _⟩, ⟨below_set HB.out hwA⟩⟩
          case measure => simp [intOf]
        · have hdn : decide (1 < xs.length) = true := by simp; omega
          have hlp : 1 < xs.length := by omega
          have hlpi : (1 : Int) < (xs.length : Int) := by omega
          obtain ⟨rb, ro, eA, hrb, hx⟩ := int_at (Kd.C_below HR9.out HB.out) 1 (by omega)
          obtain ⟨x, hxe⟩ : ∃ x, xs.getD 1 0 = x := ⟨_, rfl⟩
          rw [hxe] at hx
          subst eA
          clear hxe hlx hi0 hi
          go_wp2
          go_roundw
          case rel => exact ⟨2, a0, x, rfl, by omega, by omega, ⟨blk_set HP.out 1 _⟩, ⟨HD.out.far (p := ⟨gA, 1, none⟩) hneD _⟩, ⟨below_set HB.out hwA⟩⟩
          case measure => simp [intOf]
        · clear hlx
          go_wp2_with fail
          go_meet
          exact ⟨a0, a1, HP, HD, HB⟩
      · have hd : decide (i < (xs.length : Int)) = false := by simpa using hlx
        rcases (by omega : i = 0 ∨ i = 1 ∨ i = 2) with rfl | rfl | rfl
        · have hdn : decide (0 < xs.length) = false := by simp at hlx ⊢; omega
          clear hlx
          go_wp2_with fail
          go_meet
          exact ⟨a0, a1, HP, HD, HB⟩
        · have hdn : decide (1 < xs.length) = false := by simp at hlx ⊢; omega
          clear hlx
          go_wp2_with fail
          go_meet
          exact ⟨a0, a1, HP, HD, HB⟩
        · clear hlx
          go_wp2_with fail
          go_meet
          exact ⟨a0, a1, HP, HD, HB⟩
  case rest =>
    clear HP HD HB
    obtain ⟨a0, a1, HP, HD, HB⟩ := hcut
    obtain ⟨wb, hwb⟩ : ∃ x, x = wc := ⟨_, rfl⟩
    subst hwb
    have D := HD.out
    have P := HP.out
    clear HD HP
    have D_0 := blk_cell D 0
    have D_1 := blk_cell D 1
    have D_2 := blk_cell D 2
    have D_3 := blk_cell D 3
    have D_4 := blk_cell D 4
    have D_5 := blk_cell D 5
    have D_6 := blk_cell D 6
    have D_7 := blk_cell D 7
    have D_8 := blk_cell D 8
    have D_9 := blk_cell D 9
    have D_10 := blk_cell D 10
    have D_11 := blk_cell D 11
    simp only [List.getElem?_toArray, List.getElem?_cons_zero, List.getElem?_cons_succ] at D_0 D_1 D_2 D_3 D_4 D_5 D_6 D_7 D_8 D_9 D_10 D_11
    have D_l := blk_lt D
    have HD := Aside0.mk D
    clear D
    have P_0 := blk_cell P 0
    have P_1 := blk_cell P 1
    simp only [List.getElem?_toArray, List.getElem?_cons_zero, List.getElem?_cons_succ] at P_0 P_1
    have P_l := blk_lt P
    have HP := Aside0.mk P
    clear P
    go_wp2_with fail
    (with_reducible refine (some_q v0 d0 s0 u0 st0 p0 p1 p2 p3 q0 q1 q2 a0 a1 _).mono ?_)
    rintro e w2 ⟨nw, t, d, lo, hi, bl, rfl, hok, hb1⟩
    have HOK := Aside0.mk hok
    clear hok
    clear D_0 D_1 D_2 D_3 D_4 D_5 D_6 D_7 D_8 D_9 D_10 D_11 D_l HD
    clear P_0 P_1 P_l HP
    have n0 := Aside0.mk (below_step (by repeat (first | (with_reducible first | exact HB.out | apply below_alloc | apply pw_below_drewN | apply below_drew1) | refine below_set ?_ (by omega))) hb1)
    clear HB hb1
    have HB := n0
    clear n0
    have HWG := Aside0.mk (below_size HB.out)
    go_wp2_with fail
    (with_reducible refine (units_q A0 k0 l0 _ ?hC hc0).mono ?_)
    case hC => exact Kd.C_below HR0.out (by repeat (first | (with_reducible first | exact HB.out | apply below_alloc | apply pw_below_drewN | apply below_drew1) | refine below_set ?_ (by omega)))
    rintro e w3 ⟨vv, r, rfl, hRR, h16, hsm, hb1⟩
    obtain ⟨A1, c1, rfl, hc1, hC1⟩ := Kd.R_reads hRR
    have hbase : Kd.R k35 35 w3 (w2.heap.size + 1) (fun _ => True) (.slice A1 r.length c1) r := Kd.R_lower hRR (by simp)
    have HRR := Aside0.mk hbase
    have HL := Aside0.mk h16
    have HSM := Aside0.mk hsm
    clear hRR hC1 h16 hsm hc0 HR0 hbase
    have G : IsBlk w3 w2.heap.size #[.int .i64 nw, .int .i64 t, .int .i64 d, .int .i64 lo, .int .i64 hi, .bool bl] 29 := IsBlk.below (by repeat (first | ((refine IsBlk.new _ _ ?_); (simp; done)) | apply IsBlk.alloc | apply IsBlk.drewN)) hb1
    obtain ⟨gG, hgG⟩ : ∃ g, w2.heap.size = g := ⟨_, rfl⟩
    rw [hgG] at G HRR HWG ⊢
    clear hgG
    have G_0 := blk_cell G 0
    have G_1 := blk_cell G 1
    have G_2 := blk_cell G 2
    have G_3 := blk_cell G 3
    have G_4 := blk_cell G 4
    have G_5 := blk_cell G 5
    simp only [List.getElem?_toArray, List.getElem?_cons_zero, List.getElem?_cons_succ] at G_0 G_1 G_2 G_3 G_4 G_5
    have G_l := blk_lt G
    have HG := Aside0.mk G
    clear G
    have n0 := Aside0.mk (below_step (by repeat (first | (with_reducible first | exact HB.out | apply below_alloc | apply pw_below_drewN | apply below_drew1) | refine below_set ?_ (by omega))) hb1)
    clear HB hb1
    have HB := n0
    clear n0
    go_wp2_with fail
    (with_reducible refine (count_q nw t d lo hi bl A1 c1 r _ ?hC hc1 ?h16).mono ?_)
    case hC => exact Kd.C_below (Kd.R_reads' HRR.out).2.2 (by repeat (first | (with_reducible first | exact (Below.refl _ _) | apply below_alloc | apply pw_below_drewN | apply below_drew1) | refine below_set ?_ (by omega)))
    case h16 => have := HL.out; omega
    obtain ⟨th0, e1⟩ : ∃ x, cnt isThere r = x := ⟨_, rfl⟩
    obtain ⟨up0, e2⟩ : ∃ x, cnt isUp r = x := ⟨_, rfl⟩
    rw [e1, e2]
    have HTH : Aside0 (th0 ≤ hi → cnt isThere r ≤ hi) := ⟨fun h => by rw [e1]; exact h⟩
    have HUP : Aside0 (lo ≤ up0 → lo ≤ cnt isUp r) := ⟨fun h => by rw [e2]; exact h⟩
    clear e1 e2
    rintro e w4 ⟨rfl, hb1⟩
    have G' := IsBlk.below (by repeat (with_reducible first | exact HG.out | apply IsBlk.alloc | apply IsBlk.drewN | apply IsBlk.drew)) hb1
    clear G_0 G_1 G_2 G_3 G_4 G_5 G_l HG
    have G := G'
    clear G'
    have G_0 := blk_cell G 0
    have G_1 := blk_cell G 1
    have G_2 := blk_cell G 2
    have G_3 := blk_cell G 3
    have G_4 := blk_cell G 4
    have G_5 := blk_cell G 5
    simp only [List.getElem?_toArray, List.getElem?_cons_zero, List.getElem?_cons_succ] at G_0 G_1 G_2 G_3 G_4 G_5
    have G_l := blk_lt G
    have HG := Aside0.mk G
    clear G
    have nR := Aside0.mk (Kd.R_below (by (with_reducible repeat (first | apply Kd.R_alloc | apply Kd.R_drewN | apply Kd.R_drew)); exact HRR.out) hb1)
    clear HRR
    have HRR := nR
    clear nR
    have n0 := Aside0.mk (below_step (by repeat (first | (with_reducible first | exact HB.out | apply below_alloc | apply pw_below_drewN | apply below_drew1) | refine below_set ?_ (by omega))) hb1)
    clear HB hb1
    have HB := n0
    clear n0
    go_wp2_with fail
    go_loopw [10, 15] (fun v10 v15 wr => ∃ (i : Nat), v15 = .int .i64 i ∧ i ≤ 60 ∧ ∃ (A1 : Option Addr) (c1 : Nat) (l1 : List S35), v10 = .slice A1 l1.length c1 ∧ l1.length ≤ c1 ∧ Aside0 (Kd.R k35 35 wr (gG + 1) (fun _ => True) (.slice A1 l1.length c1) l1) ∧ Aside0 (l1.length = 16) ∧ Aside0 (Small l1) ∧ Aside0 (th0 ≤ hi → cnt isThere l1 ≤ hi) ∧ Aside0 (lo ≤ up0 → lo ≤ cnt isUp l1) ∧ Aside0 (IsBlk wr gG #[.int .i64 nw, .int .i64 t, .int .i64 d, .int .i64 lo, .int .i64 hi, .bool bl] 29) ∧ Aside0 (Below w.heap.size w wr)) (fun _ v15 _ => 60 - (intOf v15).toNat)
    case atStart => exact ⟨0, rfl, by omega, A1, c1, r, rfl, hc1, ⟨(by (with_reducible repeat (first | apply Kd.R_alloc | apply Kd.R_drewN | apply Kd.R_drew)); exact HRR.out)⟩, HL, HSM, HTH, HUP, ⟨(by repeat (with_reducible first | exact HG.out | apply IsBlk.alloc | apply IsBlk.drewN | apply IsBlk.drew))⟩, ⟨by repeat (first | (with_reducible first | exact HB.out | apply below_alloc | apply pw_below_drewN | apply below_drew1) | refine below_set ?_ (by omega))⟩⟩
    case round =>
      clear HRR HL HSM HTH HUP HB hc1
      clear G_0 G_1 G_2 G_3 G_4 G_5 G_l HG
      obtain ⟨i, rfl, hi60, A1, c1, l1, rfl, hc1, HRR, HL, HSM, HTH, HUP, HG0, HB⟩ := hrel
      obtain ⟨wq, hwq⟩ : ∃ x, x = wr := ⟨_, rfl⟩
      subst hwq
      have G := HG0.out
      clear HG0
      have G_0 := blk_cell G 0
      have G_1 := blk_cell G 1
      have G_2 := blk_cell G 2
      have G_3 := blk_cell G 3
      have G_4 := blk_cell G 4
      have G_5 := blk_cell G 5
      simp only [List.getElem?_toArray, List.getElem?_cons_zero, List.getElem?_cons_succ] at G_0 G_1 G_2 G_3 G_4 G_5
      have G_l := blk_lt G
      have HG := Aside0.mk G
      clear G
      by_cases hlx : i < xs.length
      · have hd : decide ((i : Int) < (xs.length : Int)) = true := by simp; omega
        have hdi : (i : Int) < (xs.length : Int) := by omega
        by_cases h60 : i < 60
        · have hd6 : decide ((i : Int) < 60) = true := by simp; omega
          obtain ⟨rb, ro, eA, hrb, hx⟩ := int_at (Kd.C_below HR9.out HB.out) i hlx
          obtain ⟨x, hxe⟩ : ∃ x, xs.getD i 0 = x := ⟨_, rfl⟩
          rw [hxe] at hx
          subst eA
          clear hxe hlx
          go_upto_if 71 with fail
          go_cut [10] (fun v10 wc => ∃ (A1 : Option Addr) (c1 : Nat) (l1 : List S35), v10 = .slice A1 l1.length c1 ∧ l1.length ≤ c1 ∧ Aside0 (Kd.R k35 35 wc (gG + 1) (fun _ => True) (.slice A1 l1.length c1) l1) ∧ Aside0 (l1.length = 16) ∧ Aside0 (Small l1) ∧ Aside0 (th0 ≤ hi → cnt isThere l1 ≤ hi) ∧ Aside0 (lo ≤ up0 → lo ≤ cnt isUp l1) ∧ Aside0 (IsBlk wc gG #[.int .i64 nw, .int .i64 t, .int .i64 d, .int .i64 lo, .int .i64 hi, .bool bl] 29) ∧ Aside0 (Below w.heap.size w wc))
          case first =>
            cases hz : (x.tmod 2 == 0)
            · go_wp2_with fail
              (with_reducible refine (waits_q A1 c1 l1 _ ?hC hc1 ?h16).mono ?_)
              case hC => exact Kd.C_below (Kd.R_reads' HRR.out).2.2 (by repeat (first | (with_reducible first | exact (Below.refl _ _) | apply below_alloc | apply pw_below_drewN | apply below_drew1) | refine below_set ?_ (by omega)))
              case h16 => have := HL.out; omega
              rintro e w5 ⟨vv, r, rfl, hRw, hin, _, hr16, hb1⟩
              obtain ⟨A3, c3, rfl, hc3, hC3⟩ := Kd.R_reads hRw
              have hx' := cell_keep hb1 hx
              have G' := IsBlk.below (by repeat (with_reducible first | exact HG.out | apply IsBlk.alloc | apply IsBlk.drewN | apply IsBlk.drew)) hb1
              clear G_0 G_1 G_2 G_3 G_4 G_5 G_l HG
              have G := G'
              clear G'
              have G_0 := blk_cell G 0
              have G_1 := blk_cell G 1
              have G_2 := blk_cell G 2
              have G_3 := blk_cell G 3
              have G_4 := blk_cell G 4
              have G_5 := blk_cell G 5
              simp only [List.getElem?_toArray, List.getElem?_cons_zero, List.getElem?_cons_succ] at G_0 G_1 G_2 G_3 G_4 G_5
              have G_l := blk_lt G
              have HG := Aside0.mk G
              clear G
              have nR := Aside0.mk (Kd.R_below (by (with_reducible repeat (first | apply Kd.R_alloc | apply Kd.R_drewN | apply Kd.R_drew)); exact HRR.out) hb1)
              clear HRR
              have HRR := nR
              clear nR
              have n0 := Aside0.mk (below_step (by repeat (first | (with_reducible first | exact HB.out | apply below_alloc | apply pw_below_drewN | apply below_drew1) | refine below_set ?_ (by omega))) hb1)
              clear HB hb1
              have HB := n0
              clear n0
              clear hx hRw
              have hx := hx'
              clear hx'
              cases hp : decide ((0 : Int) < (r.length : Int))
              · have hpn : decide (0 < r.length) = false := by simp at hp ⊢; omega
                clear hC3 hin
                go_wp2_with fail
                go_meet
                exact ⟨A1, c1, l1, rfl, hc1, ⟨(by (with_reducible repeat (first | apply Kd.R_alloc | apply Kd.R_drewN | apply Kd.R_drew)); exact HRR.out)⟩, HL, HSM, HTH, HUP, ⟨by repeat (first | (with_reducible first | exact HG.out | apply IsBlk.alloc | apply IsBlk.drewN | apply IsBlk.drew) | refine IsBlk.far ?_ hne _)⟩, ⟨by repeat (first | (with_reducible first | exact HB.out | apply below_alloc | apply pw_below_drewN | apply below_drew1) | refine below_set ?_ (by omega))⟩⟩
              · have hpn : decide (0 < r.length) = true := by simp at hp ⊢; omega
                have hrp : 0 < r.length := by simpa using hpn
                have q2 : IntKind.u64.wrap (r.length : Int) = (r.length : Int) := by rw [u64w]; omega
                have q3 : ¬ ((r.length : Int) = 0) := by omega
                have q4 : ¬ (r = []) := by intro h; rw [h] at hrp; simp at hrp
                obtain ⟨q, hq⟩ : ∃ q, wrap64 ((IntKind.u64.wrap x).tmod (r.length : Int)) = q := ⟨_, rfl⟩
                have hq1 : 0 ≤ q ∧ q < (r.length : Int) := by
                  rw [← hq, raw_mod x r.length (by omega) (by omega)]
                  have h1 := Int.emod_nonneg (x % 18446744073709551616) q3
                  have h2 := Int.emod_lt_of_pos (x % 18446744073709551616) (by omega : (0 : Int) < (r.length : Int))
                  exact ⟨h1, h2⟩
                obtain ⟨qn, rfl⟩ : ∃ n : Nat, q = n := ⟨q.toNat, by omega⟩
                obtain ⟨rb3, ro3, eA3, hrb3, hx3⟩ := int_at hC3 qn (by omega)
                subst eA3
                obtain ⟨j, hj, hje, hjf⟩ := hin (r.getD qn 0) (by rw [List.getD_eq_getElem?_getD]; simp [show qn < r.length by omega])
                rw [hje] at hx3
                have hj16 : j < 16 := by have := HL.out; omega
                have hj1 : decide ((j : Int) < 0) = false := by simp
                have hj2 : decide ((15 : Int) < (j : Int)) = false := by simp; omega
                have hj2n : decide (15 < j) = false := by simp; omega
                obtain ⟨gR, cR, eR, hgR, hgR2, _⟩ := Kd.R_form HRR.out (by omega)
                obtain ⟨e1, e2⟩ : A1 = some ⟨gR, 0, none⟩ ∧ c1 = cR := by cases eR; exact ⟨rfl, rfl⟩
                subst e1 e2
                clear eR
                have hne : gG ≠ gR := by omega
                have hwR : w.heap.size ≤ gR := by have := HWG.out; omega
                have hj0 : (0 : Int) ≤ (j : Int) := by omega
                have hjl : (j : Int) < (l1.length : Int) := by omega
                obtain ⟨ce, hcl, hM, hcc, hfr⟩ := Kd.R_elem HRR.out z35 (j : Int) hj0 hjl
                have hxx : l1.getD ((j : Int)).toNat z35 = at_ l1 j := by rw [Int.toNat_natCast]; rfl
                rw [hxx] at hM
                obtain ⟨x0, x1, x2, hat⟩ : ∃ x0 x1 x2, at_ l1 j = ⟨x0, x1, x2⟩ := ⟨_, _, _, rfl⟩
                rw [hat] at hM hjf
                have hx2 : x2 = false := hjf
                subst hx2
                obtain rfl := PPlanEnds.k35_openM hM
                have e0 : w5.cell? ⟨gR, j * 3 + 2, none⟩ = some (.bool false) := hcc 2 _ rfl
                have f0 : w5.frozen? ⟨gR, j * 3 + 2, none⟩ = false := hfr 2
                obtain ⟨d1, d2⟩ := done_law hj hat
                have hsm2 : Small (l1.set j ⟨x0, x1, true⟩) := small_set HSM.out hj (by have := HSM.out j hj; rw [hat] at this; exact this)
                have hl2 : (l1.set j ⟨x0, x1, true⟩).length = 16 := by rw [List.length_set]; exact HL.out
                have hrow := (Kd.R_seg HRR.out (j : Int) hj0 hjl (seg := [.bool true]) (j := 2) rfl hcc (by decide : 3 ≤ 3) (x' := (⟨x0, x1, true⟩ : S35)) (PPlanEnds.k35_mkM _ _ _ _) (fun _ hk => hk)).1
                rw [Int.toNat_natCast] at hrow
                have HROW := Aside0.mk hrow
                have HSM2 := Aside0.mk hsm2
                have HL2 := Aside0.mk hl2
                have HTH2 : Aside0 (th0 ≤ hi → cnt isThere (l1.set j ⟨x0, x1, true⟩) ≤ hi) := ⟨fun h => Int.le_trans d1 (HTH.out h)⟩
                have HUP2 : Aside0 (lo ≤ up0 → lo ≤ cnt isUp (l1.set j ⟨x0, x1, true⟩)) := ⟨fun h => Int.le_trans (HUP.out h) d2⟩
                have HQ1 : (qn : Int) < (r.length : Int) := hq1.2
                have hqn : qn < r.length := by omega
                clear hq1 hC3 hin hje hjf hM hcc hfr hxx hcl hat d1 d2 hsm2 hl2 hrow hj q4
                go_wp2_with fail
                go_meet
                refine ⟨_, _, l1.set j ⟨x0, x1, true⟩, by rw [List.length_set], by rw [List.length_set]; exact hc1, ⟨?_⟩, HL2, HSM2, HTH2, HUP2, ⟨by repeat (first | (with_reducible first | exact HG.out | apply IsBlk.alloc | apply IsBlk.drewN | apply IsBlk.drew) | refine IsBlk.far ?_ hne _)⟩, ⟨by repeat (first | (with_reducible first | exact HB.out | apply below_alloc | apply pw_below_drewN | apply below_drew1) | refine below_set ?_ hwR)⟩⟩
                rw [List.length_set]
                refine Kd.R_move HROW.out (fun q _ => ?_)
                rfl
            · go_wp2_with fail
              (with_reducible refine (next_q nw t d lo hi bl A1 c1 l1 _ ?hC hc1 ?h16).mono ?_)
              case hC => exact Kd.C_below (Kd.R_reads' HRR.out).2.2 (by repeat (first | (with_reducible first | exact (Below.refl _ _) | apply below_alloc | apply pw_below_drewN | apply below_drew1) | refine below_set ?_ (by omega)))
              case h16 => have := HL.out; omega
              obtain ⟨y, hy⟩ : ∃ y, nextV ⟨nw, t, d, lo, hi, bl⟩ l1 = y := ⟨_, rfl⟩
              rw [hy]
              obtain ⟨ix, v, is⟩ := y
              cases is with
              | false =>
                rintro e w5 ⟨rfl, hb1⟩
                clear hy
                have G' := IsBlk.below (by repeat (with_reducible first | exact HG.out | apply IsBlk.alloc | apply IsBlk.drewN | apply IsBlk.drew)) hb1
                clear G_0 G_1 G_2 G_3 G_4 G_5 G_l HG
                have G := G'
                clear G'
                have G_0 := blk_cell G 0
                have G_1 := blk_cell G 1
                have G_2 := blk_cell G 2
                have G_3 := blk_cell G 3
                have G_4 := blk_cell G 4
                have G_5 := blk_cell G 5
                simp only [List.getElem?_toArray, List.getElem?_cons_zero, List.getElem?_cons_succ] at G_0 G_1 G_2 G_3 G_4 G_5
                have G_l := blk_lt G
                have HG := Aside0.mk G
                clear G
                have nR := Aside0.mk (Kd.R_below (by (with_reducible repeat (first | apply Kd.R_alloc | apply Kd.R_drewN | apply Kd.R_drew)); exact HRR.out) hb1)
                clear HRR
                have HRR := nR
                clear nR
                have n0 := Aside0.mk (below_step (by repeat (first | (with_reducible first | exact HB.out | apply below_alloc | apply pw_below_drewN | apply below_drew1) | refine below_set ?_ (by omega))) hb1)
                clear HB hb1
                have HB := n0
                clear n0
                go_wp2_with fail
                go_meet
                exact ⟨A1, c1, l1, rfl, hc1, ⟨(by (with_reducible repeat (first | apply Kd.R_alloc | apply Kd.R_drewN | apply Kd.R_drew)); exact HRR.out)⟩, HL, HSM, HTH, HUP, ⟨by repeat (first | (with_reducible first | exact HG.out | apply IsBlk.alloc | apply IsBlk.drewN | apply IsBlk.drew) | refine IsBlk.far ?_ hne _)⟩, ⟨by repeat (first | (with_reducible first | exact HB.out | apply below_alloc | apply pw_below_drewN | apply below_drew1) | refine below_set ?_ (by omega))⟩⟩
              | true =>
                obtain ⟨k, rfl, hk, hv, hne, hlaw⟩ := safe_law hy HSM.out HOK.out.nw0 HOK.out.nwt
                rintro e w5 ⟨rfl, hb1⟩
                clear hy hne
                have G' := IsBlk.below (by repeat (with_reducible first | exact HG.out | apply IsBlk.alloc | apply IsBlk.drewN | apply IsBlk.drew)) hb1
                clear G_0 G_1 G_2 G_3 G_4 G_5 G_l HG
                have G := G'
                clear G'
                have G_0 := blk_cell G 0
                have G_1 := blk_cell G 1
                have G_2 := blk_cell G 2
                have G_3 := blk_cell G 3
                have G_4 := blk_cell G 4
                have G_5 := blk_cell G 5
                simp only [List.getElem?_toArray, List.getElem?_cons_zero, List.getElem?_cons_succ] at G_0 G_1 G_2 G_3 G_4 G_5
                have G_l := blk_lt G
                have HG := Aside0.mk G
                clear G
                have nR := Aside0.mk (Kd.R_below (by (with_reducible repeat (first | apply Kd.R_alloc | apply Kd.R_drewN | apply Kd.R_drew)); exact HRR.out) hb1)
                clear HRR
                have HRR := nR
                clear nR
                have n0 := Aside0.mk (below_step (by repeat (first | (with_reducible first | exact HB.out | apply below_alloc | apply pw_below_drewN | apply below_drew1) | refine below_set ?_ (by omega))) hb1)
                clear HB hb1
                have HB := n0
                clear n0
                have hk16 : k < 16 := by have := HL.out; omega
                have k1 : decide ((0 : Int) ≤ (k : Int)) = true := by simp
                have k2 : decide ((k : Int) < 16) = true := by simp; omega
                have k2n : decide (k < 16) = true := by simp; omega
                have hv0 : 0 ≤ v := hv.elim (fun h => by omega) (fun h => by rw [h]; exact HOK.out.nw0)
                have HV := Aside0.mk hv0
                have HLAW := Aside0.mk hlaw
                have HK := Aside0.mk hk
                clear hv hv0 hlaw hk
                go_wp2_with fail
                (with_reducible refine (with_q A1 c1 l1 k v false _ ?hC hc1 ?h16 HK.out).mono ?_)
                case hC => exact Kd.C_below (Kd.R_reads' HRR.out).2.2 (by repeat (first | (with_reducible first | exact (Below.refl _ _) | apply below_alloc | apply pw_below_drewN | apply below_drew1) | refine below_set ?_ (by omega)))
                case h16 => have := HL.out; omega
                rintro e w6 ⟨vv, s, rfl, hR2, hb1⟩
                obtain ⟨A2, c2, rfl, hc2, _⟩ := Kd.R_reads hR2
                obtain ⟨s1, s2, _, _⟩ := HLAW.out s
                have hl2 : (told l1 k v s false).length = 16 := by unfold told; rw [List.length_set]; exact HL.out
                have hsm2 : Small (told l1 k v s false) := small_set HSM.out HK.out HV.out
                have hR3 := Kd.R_lower (base' := gG + 1) hR2 (by first | omega | (simp; omega))
                have HTH2 : Aside0 (th0 ≤ hi → cnt isThere (told l1 k v s false) ≤ hi) := ⟨fun h => by have := HTH.out h; rcases s1 with h1 | h1; exact h1; omega⟩
                have HUP2 : Aside0 (lo ≤ up0 → lo ≤ cnt isUp (told l1 k v s false)) := ⟨fun h => by have := HUP.out h; rcases s2 with h1 | h1; exact h1; omega⟩
                obtain ⟨l2, hl2e⟩ : ∃ x, told l1 k v s false = x := ⟨_, rfl⟩
                rw [hl2e] at hR3 hc2 hl2 hsm2 HTH2 HUP2 ⊢
                have HRR2 := Aside0.mk hR3
                have HL2 := Aside0.mk hl2
                have HSM2 := Aside0.mk hsm2
                clear hR2 hR3 hl2 hsm2 s1 s2 hl2e
                have G' := IsBlk.below (by repeat (with_reducible first | exact HG.out | apply IsBlk.alloc | apply IsBlk.drewN | apply IsBlk.drew)) hb1
                clear G_0 G_1 G_2 G_3 G_4 G_5 G_l HG
                have G := G'
                clear G'
                have G_0 := blk_cell G 0
                have G_1 := blk_cell G 1
                have G_2 := blk_cell G 2
                have G_3 := blk_cell G 3
                have G_4 := blk_cell G 4
                have G_5 := blk_cell G 5
                simp only [List.getElem?_toArray, List.getElem?_cons_zero, List.getElem?_cons_succ] at G_0 G_1 G_2 G_3 G_4 G_5
                have G_l := blk_lt G
                have HG := Aside0.mk G
                clear G
                have n0 := Aside0.mk (below_step (by repeat (first | (with_reducible first | exact HB.out | apply below_alloc | apply pw_below_drewN | apply below_drew1) | refine below_set ?_ (by omega))) hb1)
                clear HB hb1
                have HB := n0
                clear n0
                go_wp2_with fail
                go_meet
                exact ⟨A2, c2, l2, rfl, hc2, ⟨(by (with_reducible repeat (first | apply Kd.R_alloc | apply Kd.R_drewN | apply Kd.R_drew)); exact HRR2.out)⟩, HL2, HSM2, HTH2, HUP2, ⟨(by repeat (with_reducible first | exact HG.out | apply IsBlk.alloc | apply IsBlk.drewN | apply IsBlk.drew))⟩, ⟨by repeat (first | (with_reducible first | exact HB.out | apply below_alloc | apply pw_below_drewN | apply below_drew1) | refine below_set ?_ (by omega))⟩⟩
          case rest =>
            clear HRR HL HSM HTH HUP HB hc1 hx hrb
            clear G_0 G_1 G_2 G_3 G_4 G_5 G_l HG
            obtain ⟨A1, c1, l1, rfl, hc1, HRR, HL, HSM, HTH, HUP, HG0, HB⟩ := hcut
            obtain ⟨wv, hwv⟩ : ∃ x, x = wc := ⟨_, rfl⟩
            subst hwv
            have G := HG0.out
            clear HG0
            have G_0 := blk_cell G 0
            have G_1 := blk_cell G 1
            have G_2 := blk_cell G 2
            have G_3 := blk_cell G 3
            have G_4 := blk_cell G 4
            have G_5 := blk_cell G 5
            simp only [List.getElem?_toArray, List.getElem?_cons_zero, List.getElem?_cons_succ] at G_0 G_1 G_2 G_3 G_4 G_5
            have G_l := blk_lt G
            have HG := Aside0.mk G
            clear G
            go_wp2_with fail
            (with_reducible refine (count_q nw t d lo hi bl A1 c1 l1 _ ?hC hc1 ?h16).mono ?_)
            case hC => exact Kd.C_below (Kd.R_reads' HRR.out).2.2 (by repeat (first | (with_reducible first | exact (Below.refl _ _) | apply below_alloc | apply pw_below_drewN | apply below_drew1) | refine below_set ?_ (by omega)))
            case h16 => have := HL.out; omega
            obtain ⟨th1, e1⟩ : ∃ x, cnt isThere l1 = x := ⟨_, rfl⟩
            obtain ⟨up1, e2⟩ : ∃ x, cnt isUp l1 = x := ⟨_, rfl⟩
            rw [e1, e2]
            have h1 := HTH.out
            have h2 := HUP.out
            rw [e1] at h1
            rw [e2] at h2
            have H1 := Aside0.mk h1
            have H2 := Aside0.mk h2
            clear e1 e2 h1 h2
            rintro e w7 ⟨rfl, hb1⟩
            have G' := IsBlk.below (by repeat (with_reducible first | exact HG.out | apply IsBlk.alloc | apply IsBlk.drewN | apply IsBlk.drew)) hb1
            clear G_0 G_1 G_2 G_3 G_4 G_5 G_l HG
            have G := G'
            clear G'
            have G_0 := blk_cell G 0
            have G_1 := blk_cell G 1
            have G_2 := blk_cell G 2
            have G_3 := blk_cell G 3
            have G_4 := blk_cell G 4
            have G_5 := blk_cell G 5
            simp only [List.getElem?_toArray, List.getElem?_cons_zero, List.getElem?_cons_succ] at G_0 G_1 G_2 G_3 G_4 G_5
            have G_l := blk_lt G
            have HG := Aside0.mk G
            clear G
            have nR := Aside0.mk (Kd.R_below (by (with_reducible repeat (first | apply Kd.R_alloc | apply Kd.R_drewN | apply Kd.R_drew)); exact HRR.out) hb1)
            clear HRR
            have HRR := nR
            clear nR
            have n0 := Aside0.mk (below_step (by repeat (first | (with_reducible first | exact HB.out | apply below_alloc | apply pw_below_drewN | apply below_drew1) | refine below_set ?_ (by omega))) hb1)
            clear HB hb1
            have HB := n0
            clear n0
            cases t1 : decide (th0 ≤ hi)
            · cases t2 : decide (lo ≤ up0)
              · go_wp2
                go_roundw
                case rel => exact ⟨i + 1, by go_num, by omega, A1, c1, l1, rfl, hc1, ⟨(by (with_reducible repeat (first | apply Kd.R_alloc | apply Kd.R_drewN | apply Kd.R_drew)); exact HRR.out)⟩, HL, HSM, HTH, HUP, ⟨(by repeat (with_reducible first | exact HG.out | apply IsBlk.alloc | apply IsBlk.drewN | apply IsBlk.drew))⟩, ⟨by repeat (first | (with_reducible first | exact HB.out | apply below_alloc | apply pw_below_drewN | apply below_drew1) | refine below_set ?_ (by omega))⟩⟩
                case measure => simp [intOf]; omega
              · have t3 : decide (up1 < lo) = false := by have := H2.out (by simpa using t2); simp; omega
                go_wp2
                go_roundw
                case rel => exact ⟨i + 1, by go_num, by omega, A1, c1, l1, rfl, hc1, ⟨(by (with_reducible repeat (first | apply Kd.R_alloc | apply Kd.R_drewN | apply Kd.R_drew)); exact HRR.out)⟩, HL, HSM, HTH, HUP, ⟨(by repeat (with_reducible first | exact HG.out | apply IsBlk.alloc | apply IsBlk.drewN | apply IsBlk.drew))⟩, ⟨by repeat (first | (with_reducible first | exact HB.out | apply below_alloc | apply pw_below_drewN | apply below_drew1) | refine below_set ?_ (by omega))⟩⟩
                case measure => simp [intOf]; omega
            · have t4 : decide (hi < th1) = false := by have := H1.out (by simpa using t1); simp; omega
              cases t2 : decide (lo ≤ up0)
              · go_wp2
                go_roundw
                case rel => exact ⟨i + 1, by go_num, by omega, A1, c1, l1, rfl, hc1, ⟨(by (with_reducible repeat (first | apply Kd.R_alloc | apply Kd.R_drewN | apply Kd.R_drew)); exact HRR.out)⟩, HL, HSM, HTH, HUP, ⟨(by repeat (with_reducible first | exact HG.out | apply IsBlk.alloc | apply IsBlk.drewN | apply IsBlk.drew))⟩, ⟨by repeat (first | (with_reducible first | exact HB.out | apply below_alloc | apply pw_below_drewN | apply below_drew1) | refine below_set ?_ (by omega))⟩⟩
                case measure => simp [intOf]; omega
              · have t3 : decide (up1 < lo) = false := by have := H2.out (by simpa using t2); simp; omega
                go_wp2
                go_roundw
                case rel => exact ⟨i + 1, by go_num, by omega, A1, c1, l1, rfl, hc1, ⟨(by (with_reducible repeat (first | apply Kd.R_alloc | apply Kd.R_drewN | apply Kd.R_drew)); exact HRR.out)⟩, HL, HSM, HTH, HUP, ⟨(by repeat (with_reducible first | exact HG.out | apply IsBlk.alloc | apply IsBlk.drewN | apply IsBlk.drew))⟩, ⟨by repeat (first | (with_reducible first | exact HB.out | apply below_alloc | apply pw_below_drewN | apply below_drew1) | refine below_set ?_ (by omega))⟩⟩
                case measure => simp [intOf]; omega
        · have hd6 : decide ((i : Int) < 60) = false := by simp; omega
          go_wp2
          go_ret
          exact ⟨rfl, by repeat (first | (with_reducible first | exact HB.out | apply below_alloc | apply pw_below_drewN | apply below_drew1) | refine below_set ?_ (by omega))⟩
      · have hd : decide ((i : Int) < (xs.length : Int)) = false := by simp; omega
        go_wp2
        go_ret
        exact ⟨rfl, by repeat (first | (with_reducible first | exact HB.out | apply below_alloc | apply pw_below_drewN | apply below_drew1) | refine below_set ?_ (by omega))⟩

theorem walk (v0 d0 s0 u0 st0 p0 p1 p2 p3 q0 q1 q2 : Int) (A0 : Option Addr) (k0 : Nat) (l0 : List (Int × Int × Bool)) (A9 : Option Addr) (k9 : Nat) (xs : List Int) (w : World) (h1 : O.Rowz O.Is35 3 w A0 l0) (h2 : l0.length ≤ k0) (h3 : O.Rowz O.Is3 1 w A9 xs) (h4 : xs.length ≤ k9) : Calls Try.prog 6 #[.agg #[.int .i64 v0, .int .i64 d0, .int .i64 s0, .int .i64 u0, .int .i64 st0, .int .i64 p0, .int .i64 p1, .int .i64 p2, .int .i64 p3, .int .i64 q0, .int .i64 q1, .int .i64 q2], .slice A0 l0.length k0, .slice A9 xs.length k9] w fun e w' => e = .returned (.bool true) ∧ Below w.heap.size w w' := by
  have h := law v0 d0 s0 u0 st0 p0 p1 p2 p3 q0 q1 q2 A0 k0 (l0.map toS) A9 k9 xs w (C_of_Rowz h1) (by simpa using h2) (C_ints h3) h4
  rw [List.length_map] at h
  exact h
end Go.Proofs.Ytloljhopccpeeaa.WalkPlanWaits

