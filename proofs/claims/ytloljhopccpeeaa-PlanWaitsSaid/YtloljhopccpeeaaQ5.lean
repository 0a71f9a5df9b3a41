/-
  Proved here: the example of the law package is true; changes, each done at once, come to an end. No condition.
-/
import Derived.Test.YtloljhopccpeeaaQ4
namespace Go.Proofs.Ytloljhopccpeeaa.Q5
open Go.RowKit Go.Sort Go.Proofs.Ytloljhopccpeeaa.B0 Go.Proofs.Ytloljhopccpeeaa.Pl Go.Proofs.Ytloljhopccpeeaa.Pl2 Go.Proofs.Ytloljhopccpeeaa.Q1 Go.Proofs.Ytloljhopccpeeaa.Q2 Go.Proofs.Ytloljhopccpeeaa.Q3 Go.Proofs.Ytloljhopccpeeaa.Q4 Go.Proofs.YtloljhopccpeeaaW.PrintWords Go.Proofs.YtloljhopccpeeaaW.PrintLast Go.Proofs.YtloljhopccpeeaaW.PrintMore
open PPlanEnds (S35 z35 k35 k35_mk)
set_option linter.unusedVariables false
set_option linter.unusedSimpArgs false
attribute [local go_sem] max2_int min2_int max_two min_two

theorem C_two {w : World} {g : Nat} {a b : S35} (h : IsBlk w g #[.int .i64 a.f0, .int .i64 a.f1, .bool a.f2, .int .i64 b.f0, .int .i64 b.f1, .bool b.f2] 35) : Kd.C k35 w (some ⟨g, 0, none⟩) [a, b].length [a, b] := by
  have hadd : ∀ j, (⟨g, 0, none⟩ : Addr).add j = ⟨g, j, none⟩ := fun j => by unfold Addr.add; split <;> simp_all
  refine ⟨rfl, by simp, fun _ => ⟨_, rfl, fun j p hj => ⟨[.int .i64 p.f0, .int .i64 p.f1, .bool p.f2], rfl, k35_mk w p, fun i u hu => ?_⟩⟩⟩
  have hc := blk_cell h (j * 3 + i)
  rw [show j * k35.sz + i = j * 3 + i from rfl, hadd, hc]
  match j, hj with
  | 0, hj =>
    obtain rfl : a = p := by simpa using hj
    match i, hu with
    | 0, hu => simpa using hu
    | 1, hu => simpa using hu
    | 2, hu => simpa using hu
    | i + 3, hu => simp at hu
  | 1, hj =>
    obtain rfl : b = p := by simpa using hj
    match i, hu with
    | 0, hu => simpa using hu
    | 1, hu => simpa using hu
    | 2, hu => simpa using hu
    | i + 3, hu => simp at hu
  | j + 2, hj => simp at hj
theorem ex1 : nextV ⟨2, 1, 1, 1, 2, false⟩ [⟨1, 0, true⟩, ⟨0, 0, true⟩] = ⟨1, 2, true⟩ := by kernel_rfl
theorem ex2 : nextV ⟨2, 1, 1, 1, 2, false⟩ [⟨1, 0, true⟩, ⟨2, 0, true⟩] = ⟨0, 0, true⟩ := by kernel_rfl
theorem ex3 : nextV ⟨2, 1, 1, 1, 2, false⟩ [⟨0, 0, true⟩, ⟨2, 0, true⟩] = ⟨0, 0, false⟩ := by kernel_rfl
theorem next2 (a b : Int) (g : Nat) (w : World) (i v : Int) (is : Bool) (hx : nextV ⟨2, 1, 1, 1, 2, false⟩ [⟨a, 0, true⟩, ⟨b, 0, true⟩] = ⟨i, v, is⟩) (h : IsBlk w g #[.int .i64 a, .int .i64 0, .bool true, .int .i64 b, .int .i64 0, .bool true] 35) :
    Calls Try.prog 10 #[.agg #[.int .i64 2, .int .i64 1, .int .i64 1, .int .i64 1, .int .i64 2, .bool false], .slice (some ⟨g, 0, none⟩) 2 2] w fun e w' => e = .returned (.tuple #[.int .i64 i, .int .i64 v, .bool is]) ∧ Below w.heap.size w w' := by
  have hh := next_q 2 1 1 1 2 false _ 2 [⟨a, 0, true⟩, ⟨b, 0, true⟩] w (C_two (a := ⟨a, 0, true⟩) (b := ⟨b, 0, true⟩) h) (Nat.le_refl 2) (show 2 ≤ 16 by decide)
  rw [hx] at hh
  exact hh
theorem reached2 (g : Nat) (w : World) (h : IsBlk w g #[.int .i64 0, .int .i64 0, .bool true, .int .i64 2, .int .i64 0, .bool true] 35) :
    Calls Try.prog 15 #[.agg #[.int .i64 2, .int .i64 1, .int .i64 1, .int .i64 1, .int .i64 2, .bool false], .slice (some ⟨g, 0, none⟩) 2 2] w fun e w' => e = .returned (.bool true) ∧ Below w.heap.size w w' := by
  refine reached_q 2 1 1 1 2 false _ 2 [⟨0, 0, true⟩, ⟨2, 0, true⟩] w (C_two (a := ⟨0, 0, true⟩) (b := ⟨2, 0, true⟩) h) (Nat.le_refl 2) (show 2 ≤ 16 by decide) ?hD ex3 (by kernel_rfl) (.inl (by kernel_rfl))
  intro j hj
  match j, hj with
  | 0, _ => rfl
  | 1, _ => rfl
  | j + 2, hj => exact absurd (show j + 2 < 2 from hj) (by omega)
set_option maxRecDepth 100000 in
set_option maxHeartbeats 8000000 in
theorem lives_q (w : World) : Calls Try.prog 7 #[] w fun e w' => e = .returned (.bool true) ∧ Below w.heap.size w w' := by
  have HB := Aside0.mk (Below.refl w.heap.size w)
  go_enter Try.func7, Try.ntmps7
  go_wp2_with fail
  (with_reducible refine (next2 1 0 _ _ 1 2 true ex1 ?h1).mono ?_)
  case h1 => exact IsBlk.new _ _ (by first | rfl | simp)
  rintro e w1 ⟨rfl, hb1⟩
  have D : IsBlk w1 w.heap.size #[.int .i64 2, .int .i64 1, .int .i64 1, .int .i64 1, .int .i64 2, .bool false] 29 := IsBlk.below (by repeat (first | ((refine IsBlk.new _ _ ?_); (simp; done)) | apply IsBlk.alloc | apply IsBlk.drewN)) hb1
  have D_0 := blk_cell D 0
  have D_1 := blk_cell D 1
  have D_2 := blk_cell D 2
  have D_3 := blk_cell D 3
  have D_4 := blk_cell D 4
  have D_5 := blk_cell D 5
  simp only [List.getElem?_toArray, List.getElem?_cons_zero, List.getElem?_cons_succ] at D_0 D_1 D_2 D_3 D_4 D_5
  have D_l := blk_lt D
  have HD := Aside0.mk D
  clear D
  have n0 := Aside0.mk (below_step (by repeat (first | (with_reducible first | exact HB.out | apply below_alloc | apply pw_below_drewN | apply below_drew1) | refine below_set ?_ (by omega))) hb1)
  clear HB hb1
  have HB := n0
  clear n0
  go_wp2_with fail
  (with_reducible refine (next2 1 2 _ _ 0 0 true ex2 ?h2).mono ?_)
  case h2 => exact IsBlk.new _ _ (by first | rfl | simp)
  rintro e w2 ⟨rfl, hb1⟩
  have D' := IsBlk.below (by repeat (with_reducible first | exact HD.out | apply IsBlk.alloc | apply IsBlk.drewN | apply IsBlk.drew)) hb1
  clear D_0 D_1 D_2 D_3 D_4 D_5 D_l HD
  have D := D'
  clear D'
  have D_0 := blk_cell D 0
  have D_1 := blk_cell D 1
  have D_2 := blk_cell D 2
  have D_3 := blk_cell D 3
  have D_4 := blk_cell D 4
  have D_5 := blk_cell D 5
  simp only [List.getElem?_toArray, List.getElem?_cons_zero, List.getElem?_cons_succ] at D_0 D_1 D_2 D_3 D_4 D_5
  have D_l := blk_lt D
  have HD := Aside0.mk D
  clear D
  have n0 := Aside0.mk (below_step (by repeat (first | (with_reducible first | exact HB.out | apply below_alloc | apply pw_below_drewN | apply below_drew1) | refine below_set ?_ (by omega))) hb1)
  clear HB hb1
  have HB := n0
  clear n0
  go_wp2_with fail
  (with_reducible refine (reached2 _ _ ?h3).mono ?_)
  case h3 => exact IsBlk.new _ _ (by first | rfl | simp)
  rintro e w3 ⟨rfl, hb1⟩
  have n0 := Aside0.mk (below_step (by repeat (first | (with_reducible first | exact HB.out | apply below_alloc | apply pw_below_drewN | apply below_drew1) | refine below_set ?_ (by omega))) hb1)
  clear HB hb1
  have HB := n0
  clear n0
  go_wp2
  go_ret
  exact ⟨rfl, by repeat (first | (with_reducible first | exact HB.out | apply below_alloc | apply pw_below_drewN | apply below_drew1) | refine below_set ?_ (by omega))⟩

set_option maxRecDepth 100000 in
set_option maxHeartbeats 8000000 in
theorem run_q (nw t d lo hi : Int) (bl : Bool) (A : Option Addr) (c : Nat) (l : List S35) (w : World) (hr : Kd.C k35 w A l.length l) (hc : l.length ≤ c) (h16 : l.length = 16) (hok : Ok ⟨nw, t, d, lo, hi, bl⟩) (hd : Done l) (hn : cnt (isNew ⟨nw, t, d, lo, hi, bl⟩) l ≤ t) :
    Calls Try.prog 14 #[.agg #[.int .i64 nw, .int .i64 t, .int .i64 d, .int .i64 lo, .int .i64 hi, .bool bl], .slice A l.length c, .int .i64 64] w fun e w' => ∃ (A' : Option Addr) (c' : Nat) (l' : List S35) (n i v : Int), e = .returned (.tuple #[.slice A' l'.length c', .int .i64 n, .bool true]) ∧ l'.length ≤ c' ∧ l'.length = 16 ∧ Kd.C k35 w' A' l'.length l' ∧ Done l' ∧ nextV ⟨nw, t, d, lo, hi, bl⟩ l' = ⟨i, v, false⟩ ∧ cnt (isNew ⟨nw, t, d, lo, hi, bl⟩) l' = t ∧ (cnt (isOld ⟨nw, t, d, lo, hi, bl⟩) l' = 0 ∨ t ≠ d) ∧ Below w.heap.size w w' := by
  have HB := Aside0.mk (Below.refl w.heap.size w)
  have HR := Aside0.mk hr
  have HOK := Aside0.mk hok
  have HDN := Aside0.mk hd
  have HN := Aside0.mk hn
  have HL := Aside0.mk h16
  have hlow : Aside0 ((0 : Int) + left ⟨nw, t, d, lo, hi, bl⟩ l ≤ 30) := by
    have h1 := cnt_bound (isNew ⟨nw, t, d, lo, hi, bl⟩) l
    have h2 := cnt_bound (isOld ⟨nw, t, d, lo, hi, bl⟩) l
    have h3 := hok.td
    have h4 := hok.d5
    refine ⟨?_⟩
    unfold left
    dsimp only at *
    omega
  clear hr hok hd hn h16
  go_enter Try.func14, Try.ntmps14
  go_wp2_with fail
  go_loopw [1, 9] (fun v1 v9 wr => ∃ (n : Nat) (A' : Option Addr) (c' : Nat) (l' : List S35), v9 = .int .i64 n ∧ v1 = .slice A' l'.length c' ∧ l'.length ≤ c' ∧ Aside0 (l'.length = 16) ∧ Aside0 (Kd.C k35 wr A' l'.length l') ∧ Aside0 (Done l') ∧ Aside0 (cnt (isNew ⟨nw, t, d, lo, hi, bl⟩) l' ≤ t) ∧ Aside0 ((n : Int) + left ⟨nw, t, d, lo, hi, bl⟩ l' ≤ 30) ∧ Aside0 (IsBlk wr w.heap.size #[.int .i64 nw, .int .i64 t, .int .i64 d, .int .i64 lo, .int .i64 hi, .bool bl] 29) ∧ Aside0 (Below w.heap.size w wr)) (fun _ v9 _ => 64 - (intOf v9).toNat)
  case atStart => exact ⟨0, A, c, l, rfl, rfl, hc, HL, ⟨Kd.C_below HR.out (by repeat (first | (with_reducible first | exact HB.out | apply below_alloc | apply pw_below_drewN | apply below_drew1) | refine below_set ?_ (by omega)))⟩, HDN, HN, hlow, ⟨(by repeat (first | ((refine IsBlk.new _ _ ?_); (simp; done)) | apply IsBlk.alloc | apply IsBlk.drewN))⟩, ⟨by repeat (first | (with_reducible first | exact HB.out | apply below_alloc | apply pw_below_drewN | apply below_drew1) | refine below_set ?_ (by omega))⟩⟩
  case round =>
    clear HR HB hc HDN HN HL hlow
    obtain ⟨n, A', c', l', rfl, rfl, hc, HL, HR, HDN, HN, hlow, HD, HB⟩ := hrel
    obtain ⟨wq, hwq⟩ : ∃ x, x = wr := ⟨_, rfl⟩
    subst hwq
    have hleft : 0 ≤ left ⟨nw, t, d, lo, hi, bl⟩ l' := by
      have h1 := HN.out
      have h2 := cnt_bound (isOld ⟨nw, t, d, lo, hi, bl⟩) l'
      unfold left
      dsimp only
      omega
    have hn30 : (n : Int) ≤ 30 := by have := hlow.out; omega
    have hn64 : (n : Int) < 64 := by omega
    have hnd : decide ((n : Int) < 64) = true := by simpa using hn64
    clear hleft
    have D := HD.out
    clear HD
    have D_0 := blk_cell D 0
    have D_1 := blk_cell D 1
    have D_2 := blk_cell D 2
    have D_3 := blk_cell D 3
    have D_4 := blk_cell D 4
    have D_5 := blk_cell D 5
    simp only [List.getElem?_toArray, List.getElem?_cons_zero, List.getElem?_cons_succ] at D_0 D_1 D_2 D_3 D_4 D_5
    have D_l := blk_lt D
    have HD := Aside0.mk D
    clear D
    go_wp2_with fail
    (with_reducible refine (next_q nw t d lo hi bl A' c' l' _ ?hC hc ?h16).mono ?_)
    case hC => exact Kd.C_below HR.out (by repeat (first | (with_reducible first | exact (Below.refl _ _) | apply below_alloc | apply pw_below_drewN | apply below_drew1) | refine below_set ?_ (by omega)))
    case h16 => have := HL.out; omega
    obtain ⟨x, hx⟩ : ∃ x, nextV ⟨nw, t, d, lo, hi, bl⟩ l' = x := ⟨_, rfl⟩
    rw [hx]
    obtain ⟨i, v, is⟩ := x
    cases is with
    | false =>
      have hst := ends_stuck HOK.out HL.out HDN.out HN.out hx
      rintro e w1 ⟨rfl, hb1⟩
      have nR := Aside0.mk (Kd.C_below HR.out hb1)
      have HX := Aside0.mk hx
      have HST := Aside0.mk hst
      clear HR hx hst
      have n0 := Aside0.mk (below_step (by repeat (first | (with_reducible first | exact HB.out | apply below_alloc | apply pw_below_drewN | apply below_drew1) | refine below_set ?_ (by omega))) hb1)
      clear HB hb1
      have HB := n0
      clear n0
      go_wp2
      refine bodyPost_ret (v := .tuple #[.slice A' l'.length c', .int .i64 (n : Int), .bool true]) (by simp [results, Try.results14, go_sem, *]) rfl ⟨A', c', l', _, _, _, rfl, hc, HL.out, Kd.C_below nR.out (by repeat (first | (with_reducible first | exact (Below.refl _ _) | apply below_alloc | apply pw_below_drewN | apply below_drew1) | refine below_set ?_ (by omega))), HDN.out, HX.out, HST.out.1, HST.out.2, by repeat (first | (with_reducible first | exact HB.out | apply below_alloc | apply pw_below_drewN | apply below_drew1) | refine below_set ?_ (by omega))⟩
    | true =>
      obtain ⟨k, rfl, hk, hstep⟩ := ends_step HOK.out HDN.out HN.out hx
      rintro e w1 ⟨rfl, hb1⟩
      have nR := Aside0.mk (Kd.C_below HR.out hb1)
      have nD := Aside0.mk (IsBlk.below (by repeat (with_reducible first | exact HD.out | apply IsBlk.alloc | apply IsBlk.drewN | apply IsBlk.drew)) hb1)
      clear D_0 D_1 D_2 D_3 D_4 D_5 D_l HD
      have HD := nD
      clear HR hx nD
      have HST := Aside0.mk hstep
      clear hstep
      have HK := Aside0.mk hk
      have k1 : decide ((k : Int) < 0) = false := by simp
      have k2 : decide ((l'.length : Int) ≤ (k : Int)) = false := by simp; omega
      have k2n : decide (l'.length ≤ k) = false := by simp; omega
      clear hk
      have n0 := Aside0.mk (below_step (by repeat (first | (with_reducible first | exact HB.out | apply below_alloc | apply pw_below_drewN | apply below_drew1) | refine below_set ?_ (by omega))) hb1)
      clear HB hb1
      have HB := n0
      clear n0
      go_wp2_with fail
      (with_reducible refine (with_q A' c' l' k v true _ ?hC hc ?h16 HK.out).mono ?_)
      case hC => exact Kd.C_below nR.out (by repeat (first | (with_reducible first | exact (Below.refl _ _) | apply below_alloc | apply pw_below_drewN | apply below_drew1) | refine below_set ?_ (by omega)))
      case h16 => have := HL.out; omega
      rintro e w2 ⟨vv, s, rfl, hR2, hb1⟩
      obtain ⟨A2, c2, rfl, hc2, hC2⟩ := Kd.R_reads hR2
      have hl2 : (told l' k v s true).length = 16 := by unfold told; rw [List.length_set]; exact HL.out
      obtain ⟨s1, s2, s3⟩ := HST.out s
      have hleft2 : ((n + 1 : Nat) : Int) + left ⟨nw, t, d, lo, hi, bl⟩ (told l' k v s true) ≤ 30 := by have := hlow.out; omega
      obtain ⟨l2, hl2e⟩ : ∃ x, told l' k v s true = x := ⟨_, rfl⟩
      rw [hl2e] at hC2 hc2 hl2 s1 s2 hleft2 ⊢
      have H1 := Aside0.mk hC2
      have H2 := Aside0.mk hl2
      have H3 := Aside0.mk s1
      have H4 := Aside0.mk s2
      have H5 := Aside0.mk hleft2
      have nD := Aside0.mk (IsBlk.below (by repeat (with_reducible first | exact HD.out | apply IsBlk.alloc | apply IsBlk.drewN | apply IsBlk.drew)) hb1)
      clear hC2 hl2 s1 s2 s3 hleft2 hl2e hR2 HD
      have n0 := Aside0.mk (below_step (by repeat (first | (with_reducible first | exact HB.out | apply below_alloc | apply pw_below_drewN | apply below_drew1) | refine below_set ?_ (by omega))) hb1)
      clear HB hb1
      have HB := n0
      clear n0
      go_wp2_with fail
      go_roundw
      case rel => exact ⟨n + 1, A2, c2, l2, by go_num, rfl, hc2, H2, H1, H3, H4, H5, nD, HB⟩
      case measure => simp [intOf]; omega
end Go.Proofs.Ytloljhopccpeeaa.Q5

