/-
  Proved here: units made of any, With, Waits by their facts; the goal of a spec that may be; what plan.Reached answers. No condition.
-/
import Derived.Test.YtloljhopccpeeaaQ3
import Derived.Test.YtloljhopccpeeaaPl2
import Derived.Test.YtloljhopccpeeaaB5
import Derived.Test.YtloljhopccpeeaaB6
namespace Go.Proofs.Ytloljhopccpeeaa.Q4
open Go.RowKit Go.Sort Go.Proofs.Ytloljhopccpeeaa.B0 Go.Proofs.Ytloljhopccpeeaa.B1 Go.Proofs.Ytloljhopccpeeaa.B1z Go.Proofs.Ytloljhopccpeeaa.B2 Go.Proofs.Ytloljhopccpeeaa.B3 Go.Proofs.Ytloljhopccpeeaa.B4 Go.Proofs.Ytloljhopccpeeaa.B5 Go.Proofs.Ytloljhopccpeeaa.B6 Go.Proofs.Ytloljhopccpeeaa.Pl Go.Proofs.Ytloljhopccpeeaa.Pl2 Go.Proofs.Ytloljhopccpeeaa.Q1 Go.Proofs.Ytloljhopccpeeaa.Q2 Go.Proofs.Ytloljhopccpeeaa.Q3 Go.Proofs.YtloljhopccpeeaaW.PrintWords Go.Proofs.YtloljhopccpeeaaW.PrintLast Go.Proofs.YtloljhopccpeeaaW.PrintMore
open PPlanEnds (S35 z35 k35)
set_option linter.unusedVariables false
set_option linter.unusedSimpArgs false
attribute [local go_sem] max2_int min2_int max_two min_two

theorem units_q (A : Option Addr) (c : Nat) (l : List S35) (w : World) (hr : Kd.C k35 w A l.length l) (hc : l.length ≤ c) :
    Calls Try.prog 9 #[.slice A l.length c] w fun e w' => ∃ vv r, e = .returned vv ∧ Kd.R k35 35 w' w.heap.size (fun _ => True) vv r ∧ r.length = 16 ∧ Small r ∧ Below w.heap.size w w' := by
  obtain ⟨r, h1, h2, h3⟩ := good_f l
  exact (PPlanEnds.pacesetterref19_Good.calls 17 A c l r w hr hc h1).mono fun e w' ⟨vv, e1, e2, e3⟩ => ⟨vv, r, e1, e2, h2, h3, e3⟩
theorem all_q (A : Option Addr) (c : Nat) (l : List S35) (w : World) (hr : Kd.C k35 w A l.length l) (hc : l.length ≤ c) :
    Calls Try.prog 13 #[.slice A l.length c] w fun e w' => ∃ vv r, e = .returned vv ∧ Kd.R k35 35 w' w.heap.size (fun _ => True) vv r ∧ r.length = 16 ∧ Small r ∧ Done r ∧ Below w.heap.size w w' := by
  obtain ⟨r, h1, h2, h3, h4⟩ := all_f l
  exact (PPlanEnds.pacesetterlaw19_all.calls 17 A c l r w hr hc h1).mono fun e w' ⟨vv, e1, e2, e3⟩ => ⟨vv, r, e1, e2, h2, h3, h4, e3⟩
theorem with_q (A : Option Addr) (c : Nat) (l : List S35) (k : Nat) (v : Int) (b : Bool) (w : World) (hr : Kd.C k35 w A l.length l) (hc : l.length ≤ c) (h16 : l.length ≤ 16) (hk : k < l.length) :
    Calls Try.prog 12 #[.slice A l.length c, .int .i64 (k : Int), .int .i64 v, .bool b] w fun e w' => ∃ vv s, e = .returned vv ∧ Kd.R k35 35 w' w.heap.size (fun _ => True) vv (told l k v s b) ∧ Below w.heap.size w w' :=
  (PPlanEnds.pacesetterref19_With.calls A c l k v b _ w hr hc (with_f l h16 k hk v b)).mono fun e w' ⟨vv, e1, e2, e3⟩ => ⟨vv, _, e1, e2, e3⟩
theorem waits_q (A : Option Addr) (c : Nat) (l : List S35) (w : World) (hr : Kd.C k35 w A l.length l) (hc : l.length ≤ c) (h16 : l.length ≤ 16) :
    Calls Try.prog 16 #[.slice A l.length c] w fun e w' => ∃ vv r, e = .returned vv ∧ RowI w' w.heap.size vv r ∧ (∀ y, y ∈ r → ∃ j, j < l.length ∧ y = (j : Nat) ∧ (at_ l j).f2 = false) ∧ (r = [] ↔ Done l) ∧ r.length ≤ 16 ∧ Below w.heap.size w w' := by
  obtain ⟨r, h1, h2, h3, h4⟩ := waits_f l h16
  exact (PPlanEnds.plan_Waits.calls _ A c l r w hr hc h1).mono fun e w' ⟨vv, e1, e2, e3⟩ => ⟨vv, r, e1, e2, h2, h3, by omega, e3⟩

theorem low_high {d s u : Int} (hd : 1 ≤ d ∧ d ≤ 5) (hs : 0 ≤ s ∧ s ≤ 6) (hu : 0 ≤ u ∧ u ≤ d) : lowV d u = d - u ∧ highV d s = d + s := by
  have e (n : Int) (h : 0 ≤ n ∧ n ≤ 1000) : B4.cut n = n := by unfold B4.cut mn mx; (repeat' split) <;> omega
  unfold lowV highV
  rw [e d (by omega), e s (by omega), e u (by omega), e 0 (by omega), wrap64_eq (n := d + s) (by omega) (by omega), wrap64_eq (n := d + s - 0) (by omega) (by omega)]
  have e2 : mx (wrap64 (d - u)) 0 = d - u := by rw [wrap64_eq (by omega) (by omega)]; unfold mx; split <;> omega
  rw [e2, wrap64_eq (n := d - u - 0) (by omega) (by omega)]
  unfold mx
  constructor <;> (split <;> omega)
theorem ok_on {v d s u st s0 s1 s2 s3 p q r i : Int} (h : Made v d s u st s0 s1 s2 s3 p q r) (hi : 0 ≤ i ∧ i < (targetsL v d s u st s0 s1 s2 s3 p q r).length) : (targetV v d s u st s0 s1 s2 s3 p q r i == 0) = false ∧ Ok ⟨v, targetV v d s u st s0 s1 s2 s3 p q r i, d, lowV d u, highV d s, st == 2⟩ := by
  obtain ⟨m, hl, hm, _, hall⟩ := rises h
  have hd := h.m_d
  have hv := h.m_v
  have hs := h.m_s
  have hu := h.m_u
  have hsu := h.m_su
  have hs2 := h.m_s2
  have ht := hall i.toNat (by omega)
  have e : targetV v d s u st s0 s1 s2 s3 p q r i = (targetsL v d s u st s0 s1 s2 s3 p q r).getD i.toNat 0 := by unfold targetV; rw [if_pos hi]
  obtain ⟨e1, e2⟩ := low_high hd hs hu
  rw [e, e1, e2]
  refine ⟨by rw [beq_eq_false_iff_ne]; omega, ⟨?_, ?_, ?_, ?_, ?_, ?_, ?_, ?_, ?_, ?_, ?_, ?_⟩⟩ <;> dsimp only <;> first | omega | skip
  intro hb
  have := hs2 (by simpa using hb)
  omega
theorem ok_back0 {v d s u st s0 s1 s2 s3 p q r : Int} (h : Made v d s u st s0 s1 s2 s3 p q r) : Ok ⟨0, 0, 0, 0, highV d s, false⟩ := by
  have hd := h.m_d
  have hs := h.m_s
  obtain ⟨_, e2⟩ := low_high hd hs h.m_u
  rw [e2]
  refine ⟨?_, ?_, ?_, ?_, ?_, ?_, ?_, ?_, ?_, ?_, ?_, ?_⟩ <;> dsimp only <;> first | omega | (intro hb; cases hb)
theorem ok_back {v d s u st s0 s1 s2 s3 p q r i : Int} (h : Made v d s u st s0 s1 s2 s3 p q r) (hi : 1 ≤ i ∧ i ≤ 3) : Ok ⟨i, d, d, lowV d u, highV d s, false⟩ := by
  have hd := h.m_d
  have hs := h.m_s
  have hu := h.m_u
  have hsu := h.m_su
  obtain ⟨e1, e2⟩ := low_high hd hs hu
  rw [e1, e2]
  refine ⟨?_, ?_, ?_, ?_, ?_, ?_, ?_, ?_, ?_, ?_, ?_, ?_⟩ <;> dsimp only <;> first | omega | (intro hb; cases hb)
theorem u64w (n : Int) : IntKind.u64.wrap n = n % 18446744073709551616 := by
  have h : IntKind.u64.wrap n = n.emod 18446744073709551616 := by simp [IntKind.wrap]; rfl
  exact h
theorem raw_mod (n k : Int) (hk : 0 < k) (hk' : k ≤ 1073741824) : wrap64 ((IntKind.u64.wrap n).tmod k) = (n % 18446744073709551616) % k := by
  rw [u64w, Int.tmod_eq_emod_of_nonneg (Int.emod_nonneg _ (by decide))]
  have h1 := Int.emod_nonneg (n % 18446744073709551616) (by omega : k ≠ 0)
  have h2 := Int.emod_lt_of_pos (n % 18446744073709551616) hk
  exact wrap64_eq (by omega) (by omega)

set_option maxRecDepth 100000 in
set_option maxHeartbeats 8000000 in
theorem some_q (v d s u st s0 s1 s2 s3 p q r a0 a1 : Int) (w : World) : Calls Try.prog 8 #[.agg #[.int .i64 v, .int .i64 d, .int .i64 s, .int .i64 u, .int .i64 st, .int .i64 s0, .int .i64 s1, .int .i64 s2, .int .i64 s3, .int .i64 p, .int .i64 q, .int .i64 r], .agg #[.int .i64 a0, .int .i64 a1]] w fun e w' => ∃ (nw t' d' lo hi : Int) (bl : Bool), e = .returned (.agg #[.int .i64 nw, .int .i64 t', .int .i64 d', .int .i64 lo, .int .i64 hi, .bool bl]) ∧ Ok ⟨nw, t', d', lo, hi, bl⟩ ∧ Below w.heap.size w w' := by
  have HB := Aside0.mk (Below.refl w.heap.size w)
  go_enter Try.func8, Try.ntmps8
  go_wp2_with fail
  (with_reducible refine (good_q v d s u st s0 s1 s2 s3 p q r _).mono ?_)
  rintro e w1 ⟨y0, y1, y2, y3, y4, y5, y6, y7, y8, y9, y10, y11, rfl, hM, hb1⟩
  have HM := Aside0.mk hM
  clear hM
  have R : IsBlk w1 (w.heap.size + 1 + 1) #[.int .i64 0, .int .i64 0, .int .i64 0, .int .i64 0, .int .i64 0, .bool false] 29 := IsBlk.below (by repeat (first | ((refine IsBlk.new _ _ ?_); (simp; done)) | apply IsBlk.alloc | apply IsBlk.drewN)) hb1
  have R_0 := blk_cell R 0
  have R_1 := blk_cell R 1
  have R_2 := blk_cell R 2
  have R_3 := blk_cell R 3
  have R_4 := blk_cell R 4
  have R_5 := blk_cell R 5
  simp only [List.getElem?_toArray, List.getElem?_cons_zero, List.getElem?_cons_succ] at R_0 R_1 R_2 R_3 R_4 R_5
  have R_z0 := blk_frozen R 0
  have R_z1 := blk_frozen R 1
  have R_z2 := blk_frozen R 2
  have R_z3 := blk_frozen R 3
  have R_z4 := blk_frozen R 4
  have R_z5 := blk_frozen R 5
  have R_l := blk_lt R
  have HR := Aside0.mk R
  clear R
  have P : IsBlk w1 (w.heap.size + 1) #[.int .i64 a0, .int .i64 a1] 25 := IsBlk.below (by repeat (first | ((refine IsBlk.new _ _ ?_); (simp; done)) | apply IsBlk.alloc | apply IsBlk.drewN)) hb1
  have P_0 := blk_cell P 0
  have P_1 := blk_cell P 1
  simp only [List.getElem?_toArray, List.getElem?_cons_zero, List.getElem?_cons_succ] at P_0 P_1
  have P_z0 := blk_frozen P 0
  have P_z1 := blk_frozen P 1
  have P_l := blk_lt P
  have HP := Aside0.mk P
  clear P
  have hR1 := R_l
  have n0 := Aside0.mk (below_step (by repeat (first | (with_reducible first | exact HB.out | apply below_alloc | apply pw_below_drewN | apply below_drew1) | refine below_set ?_ (by omega))) hb1)
  clear HB hb1
  have HB := n0
  clear n0
  cases hb : (a1.tmod 3 == 0)
  · have hb' : ¬ a1.tmod 3 = 0 := by simpa using hb
    go_wp2_with fail
    have G : IsBlk (w1.alloc (.cells #[.int .i64 y0, .int .i64 y1, .int .i64 y2, .int .i64 y3, .int .i64 y4, .int .i64 y5, .int .i64 y6, .int .i64 y7, .int .i64 y8, .int .i64 y9, .int .i64 y10, .int .i64 y11] 24)) w1.heap.size #[.int .i64 y0, .int .i64 y1, .int .i64 y2, .int .i64 y3, .int .i64 y4, .int .i64 y5, .int .i64 y6, .int .i64 y7, .int .i64 y8, .int .i64 y9, .int .i64 y10, .int .i64 y11] 24 := IsBlk.new _ _ rfl
    have P' : IsBlk (w1.alloc (.cells #[.int .i64 y0, .int .i64 y1, .int .i64 y2, .int .i64 y3, .int .i64 y4, .int .i64 y5, .int .i64 y6, .int .i64 y7, .int .i64 y8, .int .i64 y9, .int .i64 y10, .int .i64 y11] 24)) (w.heap.size + 1) #[.int .i64 a0, .int .i64 a1] 25 := (by repeat (with_reducible first | exact HP.out | apply IsBlk.alloc | apply IsBlk.drewN | apply IsBlk.drew))
    have R' : IsBlk (w1.alloc (.cells #[.int .i64 y0, .int .i64 y1, .int .i64 y2, .int .i64 y3, .int .i64 y4, .int .i64 y5, .int .i64 y6, .int .i64 y7, .int .i64 y8, .int .i64 y9, .int .i64 y10, .int .i64 y11] 24)) (w.heap.size + 1 + 1) #[.int .i64 0, .int .i64 0, .int .i64 0, .int .i64 0, .int .i64 0, .bool false] 29 := (by repeat (with_reducible first | exact HR.out | apply IsBlk.alloc | apply IsBlk.drewN | apply IsBlk.drew))
    clear P_0 P_1 P_z0 P_z1 P_l HP
    clear R_0 R_1 R_2 R_3 R_4 R_5 R_z0 R_z1 R_z2 R_z3 R_z4 R_z5 R_l HR
    have P := P'
    have R := R'
    clear P' R'
    have G_0 := blk_cell G 0
    have G_1 := blk_cell G 1
    have G_2 := blk_cell G 2
    have G_3 := blk_cell G 3
    have G_4 := blk_cell G 4
    have G_5 := blk_cell G 5
    have G_6 := blk_cell G 6
    have G_7 := blk_cell G 7
    have G_8 := blk_cell G 8
    have G_9 := blk_cell G 9
    have G_10 := blk_cell G 10
    have G_11 := blk_cell G 11
    simp only [List.getElem?_toArray, List.getElem?_cons_zero, List.getElem?_cons_succ] at G_0 G_1 G_2 G_3 G_4 G_5 G_6 G_7 G_8 G_9 G_10 G_11
    have G_l := blk_lt G
    have HG := Aside0.mk G
    clear G
    have P_0 := blk_cell P 0
    have P_1 := blk_cell P 1
    simp only [List.getElem?_toArray, List.getElem?_cons_zero, List.getElem?_cons_succ] at P_0 P_1
    have P_l := blk_lt P
    have HP := Aside0.mk P
    clear P
    have HR := Aside0.mk R
    clear R
    obtain ⟨n, hn⟩ : ∃ n, (targetsL y0 y1 y2 y3 y4 y5 y6 y7 y8 y9 y10 y11).length = n := ⟨_, rfl⟩
    obtain ⟨m, hl, hm4, _⟩ := rises HM.out
    have hn5 : 1 ≤ n ∧ n ≤ 5 := by omega
    have q2 : IntKind.u64.wrap (n : Int) = (n : Int) := by rw [u64w]; omega
    have q3 : ¬ ((n : Int) = 0) := by omega
    have q4 : ¬ (n = 0) := by omega
    obtain ⟨j, hj⟩ : ∃ j, wrap64 ((IntKind.u64.wrap a0).tmod (n : Int)) = j := ⟨_, rfl⟩
    have hji : 0 ≤ j ∧ j < (targetsL y0 y1 y2 y3 y4 y5 y6 y7 y8 y9 y10 y11).length := by
      rw [← hj, raw_mod a0 n (by omega) (by omega), hn]
      have h1 := Int.emod_nonneg (a0 % 18446744073709551616) (by omega : (n : Int) ≠ 0)
      have h2 := Int.emod_lt_of_pos (a0 % 18446744073709551616) (by omega : (0 : Int) < (n : Int))
      exact ⟨h1, h2⟩
    obtain ⟨hz, hok⟩ := ok_on HM.out hji
    obtain ⟨t', ht'⟩ : ∃ t, targetV y0 y1 y2 y3 y4 y5 y6 y7 y8 y9 y10 y11 j = t := ⟨_, rfl⟩
    obtain ⟨lo, hlo⟩ : ∃ t, lowV y1 y3 = t := ⟨_, rfl⟩
    obtain ⟨hi, hhi⟩ : ∃ t, highV y1 y2 = t := ⟨_, rfl⟩
    have HN := Aside0.mk hn
    have HJ := Aside0.mk hj
    have HZ := Aside0.mk hz
    have HT := Aside0.mk ht'
    have HLO := Aside0.mk hlo
    have HHI := Aside0.mk hhi
    have HOK := Aside0.mk hok
    clear hn hl hm4 hj hji hz hok ht' hlo hhi hb hb'
    go_upto_region 4 with fail
    refine start_ (n := 11) (S := fun w' => w'.cell? ⟨w1.heap.size, 0, none⟩ = some (.int .i64 y0) ∧ w'.cell? ⟨w1.heap.size, 1, none⟩ = some (.int .i64 y1) ∧ w'.cell? ⟨w1.heap.size, 2, none⟩ = some (.int .i64 y2) ∧ w'.cell? ⟨w1.heap.size, 3, none⟩ = some (.int .i64 y3) ∧ w'.cell? ⟨w1.heap.size, 4, none⟩ = some (.int .i64 y4) ∧ w'.cell? ⟨w1.heap.size, 5, none⟩ = some (.int .i64 y5) ∧ w'.cell? ⟨w1.heap.size, 6, none⟩ = some (.int .i64 y6) ∧ w'.cell? ⟨w1.heap.size, 7, none⟩ = some (.int .i64 y7) ∧ w'.cell? ⟨w1.heap.size, 8, none⟩ = some (.int .i64 y8) ∧ w'.cell? ⟨w1.heap.size, 9, none⟩ = some (.int .i64 y9) ∧ w'.cell? ⟨w1.heap.size, 10, none⟩ = some (.int .i64 y10) ∧ w'.cell? ⟨w1.heap.size, 11, none⟩ = some (.int .i64 y11) ∧ w'.cell? ⟨w.heap.size + 1, 0, none⟩ = some (.int .i64 a0)) (ds := [10]) #[false, false, false, false, false, false, false, false, false, false, false] (by kernel_rfl) rfl rfl ⟨G_0, G_1, G_2, G_3, G_4, G_5, G_6, G_7, G_8, G_9, G_10, G_11, P_0⟩ (fun hHeld => ?_)
    refine pure_ (i := 1) (N := some 20) (v := ?_) (a' := ?_) #[false, true, false, false, false, false, false, false, false, false, false] rfl rfl (by kernel_rfl) (fun _ _ _ h => h) (Or.inl ⟨by rfl, ?_⟩) ?_ ?_
    rotate_left
    · intro w'
      go_simp
      with_reducible rfl
    rotate_left
    · simp only [Act.put, List.setIfInBounds_toArray, List.set_cons_zero, List.set_cons_succ, i64_w, i32_w]
      rfl
    refine take_ (i := 0) (N := some 19) (v := ?_) (a' := ?_) #[true, true, false, false, false, false, false, false, false, false, false] rfl rfl (by kernel_rfl) (fun _ _ _ h => h) (Or.inl ⟨by rfl, ?_⟩) hHeld ?_ ?_
    rotate_left
    · rintro w' ⟨s0, s1, s2, s3, s4, s5, s6, s7, s8, s9, s10, s11, s12⟩
      go_simp
      with_reducible rfl
    rotate_left
    · simp only [Act.put, List.setIfInBounds_toArray, List.set_cons_zero, List.set_cons_succ, i64_w, i32_w]
      rfl
    refine take_ (i := 2) (N := some 21) (v := ?_) (a' := ?_) #[true, true, true, false, false, false, false, false, false, false, false] rfl rfl (by kernel_rfl) (fun _ _ _ h => h) (Or.inl ⟨by rfl, ?_⟩) hHeld ?_ ?_
    rotate_left
    · rintro w' ⟨s0, s1, s2, s3, s4, s5, s6, s7, s8, s9, s10, s11, s12⟩
      go_simp
      with_reducible rfl
    rotate_left
    · simp only [Act.put, List.setIfInBounds_toArray, List.set_cons_zero, List.set_cons_succ, i64_w, i32_w]
      rfl
    refine pure_ (i := 3) (N := some 22) (v := ?_) (a' := ?_) #[true, true, true, true, false, false, false, false, false, false, false] rfl rfl (by kernel_rfl) (fun _ _ _ h => h) (Or.inl ⟨by rfl, ?_⟩) ?_ ?_
    rotate_left
    · intro w'
      go_simp
      with_reducible rfl
    rotate_left
    · simp only [Act.put, List.setIfInBounds_toArray, List.set_cons_zero, List.set_cons_succ, i64_w, i32_w]
      rfl
    refine take_ (i := 4) (N := some 23) (v := ?_) (a' := ?_) #[true, true, true, true, true, false, false, false, false, false, false] rfl rfl (by kernel_rfl) (fun _ _ _ h => h) (Or.inl ⟨by rfl, ?_⟩) hHeld ?_ ?_
    rotate_left
    · rintro w' ⟨s0, s1, s2, s3, s4, s5, s6, s7, s8, s9, s10, s11, s12⟩
      go_simp
      with_reducible rfl
    rotate_left
    · simp only [Act.put, List.setIfInBounds_toArray, List.set_cons_zero, List.set_cons_succ, i64_w, i32_w]
      rfl
    refine one_ (i := 5) (N := some 24) #[true, true, true, true, true, true, false, false, false, false, false] rfl rfl (by kernel_rfl) (by decide) (fun K hK => ?_)
    refine goes_ Try.func20 (by kernel_rfl) rfl #[.agg #[.int .i64 y0, .int .i64 y1, .int .i64 y2, .int .i64 y3, .int .i64 y4, .int .i64 y5, .int .i64 y6, .int .i64 y7, .int .i64 y8, .int .i64 y9, .int .i64 y10, .int .i64 y11]] (by rfl) rfl rfl (by simp only [List.map_toArray, List.map_cons, List.map_nil]; rfl) ?_
    with_reducible refine (stages_q y0 y1 y2 y3 y4 y5 y6 y7 y8 y9 y10 y11 _).mono ?_
    rw [HN.out]
    rintro e w3 ⟨rfl, hb3⟩
    have nR := IsBlk.below (by repeat (with_reducible first | exact HR.out | apply IsBlk.alloc | apply IsBlk.drewN | apply IsBlk.drew)) hb3
    have n0 := Aside0.mk (below_step (by repeat (first | (with_reducible first | exact HB.out | apply below_alloc | apply pw_below_drewN | apply below_drew1) | refine below_set ?_ (by omega))) hb3)
    clear HR HB
    have HR := Aside0.mk nR
    have HB := n0
    clear n0 nR
    refine ⟨_, rfl, ?_⟩
    refine hK.out _ _ ⟨cell_keep hb3 hHeld.1, cell_keep hb3 hHeld.2.1, cell_keep hb3 hHeld.2.2.1, cell_keep hb3 hHeld.2.2.2.1, cell_keep hb3 hHeld.2.2.2.2.1, cell_keep hb3 hHeld.2.2.2.2.2.1, cell_keep hb3 hHeld.2.2.2.2.2.2.1, cell_keep hb3 hHeld.2.2.2.2.2.2.2.1, cell_keep hb3 hHeld.2.2.2.2.2.2.2.2.1, cell_keep hb3 hHeld.2.2.2.2.2.2.2.2.2.1, cell_keep hb3 hHeld.2.2.2.2.2.2.2.2.2.2.1, cell_keep hb3 hHeld.2.2.2.2.2.2.2.2.2.2.2.1, cell_keep hb3 hHeld.2.2.2.2.2.2.2.2.2.2.2.2⟩ (fun hHeld => ?_)
    clear hK K
    refine norm_ (a' := ?_) ?_ ?_
    rotate_left
    · show Act.put _ (some 24) _ = _
      simp only [Act.put, List.setIfInBounds_toArray, List.set_cons_zero, List.set_cons_succ, i64_w, i32_w]
      rfl
    refine pure_ (i := 6) (N := some 25) (v := ?_) (a' := ?_) #[true, true, true, true, true, true, true, false, false, false, false] rfl rfl (by kernel_rfl) (fun _ _ _ h => h) (Or.inl ⟨by rfl, ?_⟩) ?_ ?_
    rotate_left
    · intro w'
      go_simp
      with_reducible rfl
    rotate_left
    · simp only [Act.put, List.setIfInBounds_toArray, List.set_cons_zero, List.set_cons_succ, i64_w, i32_w]
      rfl
    refine pure_ (i := 7) (N := some 26) (v := ?_) (a' := ?_) #[true, true, true, true, true, true, true, true, false, false, false] rfl rfl (by kernel_rfl) (fun _ _ _ h => h) (Or.inl ⟨by rfl, ?_⟩) ?_ ?_
    rotate_left
    · intro w'
      go_simp
      with_reducible rfl
    rotate_left
    · simp only [Act.put, List.setIfInBounds_toArray, List.set_cons_zero, List.set_cons_succ, i64_w, i32_w]
      rfl
    refine pure_ (i := 8) (N := some 27) (v := ?_) (a' := ?_) #[true, true, true, true, true, true, true, true, true, false, false] rfl rfl (by kernel_rfl) (fun _ _ _ h => h) (Or.inl ⟨by rfl, ?_⟩) ?_ ?_
    rotate_left
    · intro w'
      go_simp
      with_reducible rfl
    rotate_left
    · simp only [Act.put, List.setIfInBounds_toArray, List.set_cons_zero, List.set_cons_succ, i64_w, i32_w]
      rfl
    refine one_ (i := 9) (N := some 28) #[true, true, true, true, true, true, true, true, true, true, false] rfl rfl (by kernel_rfl) (by decide) (fun K hK => ?_)
    refine goes_ Try.func19 (by kernel_rfl) rfl #[.agg #[.int .i64 y0, .int .i64 y1, .int .i64 y2, .int .i64 y3, .int .i64 y4, .int .i64 y5, .int .i64 y6, .int .i64 y7, .int .i64 y8, .int .i64 y9, .int .i64 y10, .int .i64 y11], .int .i64 (wrap64 ((IntKind.u64.wrap a0).tmod (n : Int)))] (by rfl) rfl rfl (by simp only [List.map_toArray, List.map_cons, List.map_nil]; rfl) ?_
    rw [HJ.out]
    with_reducible refine (on_q y0 y1 y2 y3 y4 y5 y6 y7 y8 y9 y10 y11 j _).mono ?_
    rw [HZ.out, if_neg (by decide)]
    rintro e w3 ⟨rfl, hb3⟩
    have nR := IsBlk.below (by repeat (with_reducible first | exact HR.out | apply IsBlk.alloc | apply IsBlk.drewN | apply IsBlk.drew)) hb3
    have n0 := Aside0.mk (below_step (by repeat (first | (with_reducible first | exact HB.out | apply below_alloc | apply pw_below_drewN | apply below_drew1) | refine below_set ?_ (by omega))) hb3)
    clear HR HB
    have HR := Aside0.mk nR
    have HB := n0
    clear n0 nR
    have R9 := HR.out
    have R9_0 := blk_cell R9 0
    have R9_1 := blk_cell R9 1
    have R9_2 := blk_cell R9 2
    have R9_3 := blk_cell R9 3
    have R9_4 := blk_cell R9 4
    have R9_5 := blk_cell R9 5
    simp only [List.getElem?_toArray, List.getElem?_cons_zero, List.getElem?_cons_succ] at R9_0 R9_1 R9_2 R9_3 R9_4 R9_5
    have R9_z0 := blk_frozen R9 0
    have R9_z1 := blk_frozen R9 1
    have R9_z2 := blk_frozen R9 2
    have R9_z3 := blk_frozen R9 3
    have R9_z4 := blk_frozen R9 4
    have R9_z5 := blk_frozen R9 5
    clear R9
    refine ⟨_, rfl, ?_⟩
    refine hK.out _ _ ⟨cell_keep hb3 hHeld.1, cell_keep hb3 hHeld.2.1, cell_keep hb3 hHeld.2.2.1, cell_keep hb3 hHeld.2.2.2.1, cell_keep hb3 hHeld.2.2.2.2.1, cell_keep hb3 hHeld.2.2.2.2.2.1, cell_keep hb3 hHeld.2.2.2.2.2.2.1, cell_keep hb3 hHeld.2.2.2.2.2.2.2.1, cell_keep hb3 hHeld.2.2.2.2.2.2.2.2.1, cell_keep hb3 hHeld.2.2.2.2.2.2.2.2.2.1, cell_keep hb3 hHeld.2.2.2.2.2.2.2.2.2.2.1, cell_keep hb3 hHeld.2.2.2.2.2.2.2.2.2.2.2.1, cell_keep hb3 hHeld.2.2.2.2.2.2.2.2.2.2.2.2⟩ (fun hHeld => ?_)
    clear hK K
    refine norm_ (a' := ?_) ?_ ?_
    rotate_left
    · show Act.put _ (some 28) _ = _
      simp only [Act.put, List.setIfInBounds_toArray, List.set_cons_zero, List.set_cons_succ, i64_w, i32_w]
      rfl
    refine last_ (i := 10) (N := none) #[true, true, true, true, true, true, true, true, true, true, true] rfl rfl (by kernel_rfl) (by decide) (fun K hK => ?_)
    refine skip_ (w1 := ?_) (by rfl) rfl ?_ ?_
    rotate_left
    · go_simp
      rfl
    refine hK.out _ _ ?_
    clear hK K
    refine done_ (by kernel_rfl) ?_
    go_wp2
    exact bodyPost_ret (v := .agg #[.int .i64 y0, .int .i64 (targetV y0 y1 y2 y3 y4 y5 y6 y7 y8 y9 y10 y11 j), .int .i64 y1, .int .i64 (lowV y1 y3), .int .i64 (highV y1 y2), .bool (y4 == 2)]) (by simp [results, Try.results8, go_sem, *]) rfl ⟨_, _, _, _, _, _, rfl, HOK.out, by repeat (first | (with_reducible first | exact HB.out | apply below_alloc | apply pw_below_drewN | apply below_drew1) | refine below_set ?_ (by omega))⟩
  · have hb' : a1.tmod 3 = 0 := by simpa using hb
    obtain ⟨j, hj⟩ : ∃ j, wrap64 ((IntKind.u64.wrap a0).tmod 4) = j := ⟨_, rfl⟩
    have hj4 : 0 ≤ j ∧ j < 4 := by rw [← hj, raw_mod a0 4 (by decide) (by decide)]; omega
    have HJ := Aside0.mk hj
    clear hj hb
    go_wp2_with fail
    rw [HJ.out]
    by_cases h0 : j = 0
    · subst h0
      (with_reducible refine (back_0 y0 y1 y2 y3 y4 y5 y6 y7 y8 y9 y10 y11 0 _ (made_ok HM.out) rfl).mono ?_)
      obtain ⟨hi, hhi⟩ : ∃ t, highV y1 y2 = t := ⟨_, rfl⟩
      have hok := ok_back0 HM.out
      rw [hhi] at hok ⊢
      have HOK := Aside0.mk hok
      clear hhi hok
      rintro e w2 ⟨rfl, hb1⟩
      have R' := IsBlk.below (by repeat (with_reducible first | exact HR.out | apply IsBlk.alloc | apply IsBlk.drewN | apply IsBlk.drew)) hb1
      clear R_0 R_1 R_2 R_3 R_4 R_5 R_z0 R_z1 R_z2 R_z3 R_z4 R_z5 R_l HR
      have R := R'
      clear R'
      have R_0 := blk_cell R 0
      have R_1 := blk_cell R 1
      have R_2 := blk_cell R 2
      have R_3 := blk_cell R 3
      have R_4 := blk_cell R 4
      have R_5 := blk_cell R 5
      simp only [List.getElem?_toArray, List.getElem?_cons_zero, List.getElem?_cons_succ] at R_0 R_1 R_2 R_3 R_4 R_5
      have R_z0 := blk_frozen R 0
      have R_z1 := blk_frozen R 1
      have R_z2 := blk_frozen R 2
      have R_z3 := blk_frozen R 3
      have R_z4 := blk_frozen R 4
      have R_z5 := blk_frozen R 5
      have R_l := blk_lt R
      have HR := Aside0.mk R
      clear R
      have n0 := Aside0.mk (below_step (by repeat (first | (with_reducible first | exact HB.out | apply below_alloc | apply pw_below_drewN | apply below_drew1) | refine below_set ?_ (by omega))) hb1)
      clear HB hb1
      have HB := n0
      clear n0
      go_wp2
      exact bodyPost_ret (v := .agg #[.int .i64 0, .int .i64 0, .int .i64 0, .int .i64 0, .int .i64 hi, .bool false]) (by simp [results, Try.results8, go_sem, *]) rfl ⟨_, _, _, _, _, _, rfl, HOK.out, by repeat (first | (with_reducible first | exact HB.out | apply below_alloc | apply pw_below_drewN | apply below_drew1) | refine below_set ?_ (by omega))⟩
    · (with_reducible refine (back_i y0 y1 y2 y3 y4 y5 y6 y7 y8 y9 y10 y11 j _ (made_ok HM.out) (by simp; omega) (by simpa using h0)).mono ?_)
      obtain ⟨hi, hhi⟩ : ∃ t, highV y1 y2 = t := ⟨_, rfl⟩
      obtain ⟨lo, hlo⟩ : ∃ t, lowV y1 y3 = t := ⟨_, rfl⟩
      have hok := ok_back (i := j) HM.out (by omega)
      rw [hhi, hlo] at hok ⊢
      have HOK := Aside0.mk hok
      clear hhi hlo hok
      rintro e w2 ⟨rfl, hb1⟩
      have R' := IsBlk.below (by repeat (with_reducible first | exact HR.out | apply IsBlk.alloc | apply IsBlk.drewN | apply IsBlk.drew)) hb1
      clear R_0 R_1 R_2 R_3 R_4 R_5 R_z0 R_z1 R_z2 R_z3 R_z4 R_z5 R_l HR
      have R := R'
      clear R'
      have R_0 := blk_cell R 0
      have R_1 := blk_cell R 1
      have R_2 := blk_cell R 2
      have R_3 := blk_cell R 3
      have R_4 := blk_cell R 4
      have R_5 := blk_cell R 5
      simp only [List.getElem?_toArray, List.getElem?_cons_zero, List.getElem?_cons_succ] at R_0 R_1 R_2 R_3 R_4 R_5
      have R_z0 := blk_frozen R 0
      have R_z1 := blk_frozen R 1
      have R_z2 := blk_frozen R 2
      have R_z3 := blk_frozen R 3
      have R_z4 := blk_frozen R 4
      have R_z5 := blk_frozen R 5
      have R_l := blk_lt R
      have HR := Aside0.mk R
      clear R
      have n0 := Aside0.mk (below_step (by repeat (first | (with_reducible first | exact HB.out | apply below_alloc | apply pw_below_drewN | apply below_drew1) | refine below_set ?_ (by omega))) hb1)
      clear HB hb1
      have HB := n0
      clear n0
      go_wp2
      exact bodyPost_ret (v := .agg #[.int .i64 j, .int .i64 y1, .int .i64 y1, .int .i64 lo, .int .i64 hi, .bool false]) (by simp [results, Try.results8, go_sem, *]) rfl ⟨_, _, _, _, _, _, rfl, HOK.out, by repeat (first | (with_reducible first | exact HB.out | apply below_alloc | apply pw_below_drewN | apply below_drew1) | refine below_set ?_ (by omega))⟩

set_option maxRecDepth 100000 in
set_option maxHeartbeats 8000000 in
theorem reached_q (nw t d lo hi : Int) (bl : Bool) (A : Option Addr) (c : Nat) (l : List S35) (w : World) (hr : Kd.C k35 w A l.length l) (hc : l.length ≤ c) (h16 : l.length ≤ 16) (hd : Done l) {i v : Int} (hn : nextV ⟨nw, t, d, lo, hi, bl⟩ l = ⟨i, v, false⟩) (hf : cnt (isNew ⟨nw, t, d, lo, hi, bl⟩) l = t) (ho : cnt (isOld ⟨nw, t, d, lo, hi, bl⟩) l = 0 ∨ t ≠ d) :
    Calls Try.prog 15 #[.agg #[.int .i64 nw, .int .i64 t, .int .i64 d, .int .i64 lo, .int .i64 hi, .bool bl], .slice A l.length c] w fun e w' => e = .returned (.bool true) ∧ Below w.heap.size w w' := by
  have HB := Aside0.mk (Below.refl w.heap.size w)
  have HR := Aside0.mk hr
  obtain ⟨ol, hol⟩ : ∃ n, cnt (isOld ⟨nw, t, d, lo, hi, bl⟩) l = n := ⟨_, rfl⟩
  rw [hol] at ho
  have hof := of_q nw t d lo hi bl A c l w hr hc h16
  obtain ⟨th, hth⟩ : ∃ n, cnt isThere l = n := ⟨_, rfl⟩
  obtain ⟨up, hup⟩ : ∃ n, cnt isUp l = n := ⟨_, rfl⟩
  obtain ⟨fu, hfu⟩ : ∃ n, cnt (newUp ⟨nw, t, d, lo, hi, bl⟩) l = n := ⟨_, rfl⟩
  have HE : Aside0 (cnt (isNew ⟨nw, t, d, lo, hi, bl⟩) l = t ∧ cnt (isOld ⟨nw, t, d, lo, hi, bl⟩) l = ol ∧ cnt isThere l = th ∧ cnt isUp l = up ∧ cnt (newUp ⟨nw, t, d, lo, hi, bl⟩) l = fu) := ⟨⟨hf, hol, hth, hup, hfu⟩⟩
  have HN := Aside0.mk hn
  have HDN := Aside0.mk hd
  have ho2 : ((ol == 0) || (t != d)) = true := by
    rcases ho with h | h
    · simp [h]
    · simp [h]
  have HO2 := Aside0.mk ho2
  clear hr hn hf ho hol hof hth hup hfu hd ho2
  go_enter Try.func15, Try.ntmps15
  go_wp2_with fail
  (with_reducible refine (of_q nw t d lo hi bl A c l _ ?hC hc h16).mono ?_)
  case hC => exact Kd.C_below HR.out (by repeat (first | (with_reducible first | exact HB.out | apply below_alloc | apply pw_below_drewN | apply below_drew1) | refine below_set ?_ (by omega)))
  rw [HE.out.1, HE.out.2.1, HE.out.2.2.1, HE.out.2.2.2.1, HE.out.2.2.2.2]
  rintro e w1 ⟨rfl, hb1⟩
  have D : IsBlk w1 w.heap.size #[.int .i64 nw, .int .i64 t, .int .i64 d, .int .i64 lo, .int .i64 hi, .bool bl] 29 := IsBlk.below (by repeat (first | ((refine IsBlk.new _ _ ?_); (simp; done)) | apply IsBlk.alloc | apply IsBlk.drewN)) hb1
  have D_0 := blk_cell D 0
  have D_1 := blk_cell D 1
  have D_2 := blk_cell D 2
  have D_3 := blk_cell D 3
  have D_4 := blk_cell D 4
  have D_5 := blk_cell D 5
  simp only [List.getElem?_toArray, List.getElem?_cons_zero, List.getElem?_cons_succ] at D_0 D_1 D_2 D_3 D_4 D_5
  have D_l := blk_lt D
  have HD := Aside0.mk D
  clear D
  have n0 := Aside0.mk (below_step (by repeat (first | (with_reducible first | exact HB.out | apply below_alloc | apply pw_below_drewN | apply below_drew1) | refine below_set ?_ (by omega))) hb1)
  clear HB hb1
  have HB := n0
  clear n0
  have T : IsBlk (w1.alloc (.cells #[.int .i64 nw, .int .i64 t, .int .i64 d, .int .i64 lo, .int .i64 hi, .bool bl, (.slice A l.length c), .int .i64 t, .int .i64 ol, .int .i64 th, .int .i64 up, .int .i64 fu] 51)) w1.heap.size #[.int .i64 nw, .int .i64 t, .int .i64 d, .int .i64 lo, .int .i64 hi, .bool bl, (.slice A l.length c), .int .i64 t, .int .i64 ol, .int .i64 th, .int .i64 up, .int .i64 fu] 51 := IsBlk.new _ _ rfl
  have HT := Aside0.mk T
  clear T
  go_wp2_with fail
  (with_reducible refine (next_q nw t d lo hi bl A c l _ ?hC hc h16).mono ?_)
  case hC => exact Kd.C_below HR.out (by repeat (first | (with_reducible first | exact HB.out | apply below_alloc | apply pw_below_drewN | apply below_drew1) | refine below_set ?_ (by omega)))
  rw [HN.out]
  rintro e w2 ⟨rfl, hb1⟩
  have D' := IsBlk.below (by repeat (with_reducible first | exact HD.out | apply IsBlk.alloc | apply IsBlk.drewN | apply IsBlk.drew)) hb1
  clear D_0 D_1 D_2 D_3 D_4 D_5 D_l HD
  have D := D'
  clear D'
  have D_0 := blk_cell D 0
  have D_1 := blk_cell D 1
  have D_2 := blk_cell D 2
  have D_3 := blk_cell D 3
  have D_4 := blk_cell D 4
  have D_5 := blk_cell D 5
  simp only [List.getElem?_toArray, List.getElem?_cons_zero, List.getElem?_cons_succ] at D_0 D_1 D_2 D_3 D_4 D_5
  have D_l := blk_lt D
  have HD := Aside0.mk D
  clear D
  have nT := Aside0.mk (IsBlk.below (by repeat (with_reducible first | exact HT.out | apply IsBlk.alloc | apply IsBlk.drewN | apply IsBlk.drew)) hb1)
  clear HT
  have HT := nT
  clear nT
  have n0 := Aside0.mk (below_step (by repeat (first | (with_reducible first | exact HB.out | apply below_alloc | apply pw_below_drewN | apply below_drew1) | refine below_set ?_ (by omega))) hb1)
  clear HB hb1
  have HB := n0
  clear n0
  go_wp2_with fail
  (with_reducible refine (waits_q A c l _ ?hC hc h16).mono ?_)
  case hC => exact Kd.C_below HR.out (by repeat (first | (with_reducible first | exact HB.out | apply below_alloc | apply pw_below_drewN | apply below_drew1) | refine below_set ?_ (by omega)))
  rintro e w3 ⟨vv, r, rfl, hR3, _, hr0, _, hb1⟩
  obtain rfl : r = [] := hr0.2 HDN.out
  obtain ⟨A3, c3, rfl, _, _⟩ := Kd.R_reads hR3
  have D' := IsBlk.below (by repeat (with_reducible first | exact HD.out | apply IsBlk.alloc | apply IsBlk.drewN | apply IsBlk.drew)) hb1
  clear D_0 D_1 D_2 D_3 D_4 D_5 D_l HD
  have D := D'
  clear D'
  have D_0 := blk_cell D 0
  have D_1 := blk_cell D 1
  have D_2 := blk_cell D 2
  have D_3 := blk_cell D 3
  have D_4 := blk_cell D 4
  have D_5 := blk_cell D 5
  simp only [List.getElem?_toArray, List.getElem?_cons_zero, List.getElem?_cons_succ] at D_0 D_1 D_2 D_3 D_4 D_5
  have D_l := blk_lt D
  have HD := Aside0.mk D
  clear D
  have T := IsBlk.below (by repeat (with_reducible first | exact HT.out | apply IsBlk.alloc | apply IsBlk.drewN | apply IsBlk.drew)) hb1
  clear HT
  have T_0 := blk_cell T 0
  have T_1 := blk_cell T 1
  have T_2 := blk_cell T 2
  have T_3 := blk_cell T 3
  have T_4 := blk_cell T 4
  have T_5 := blk_cell T 5
  have T_6 := blk_cell T 6
  have T_7 := blk_cell T 7
  have T_8 := blk_cell T 8
  have T_9 := blk_cell T 9
  have T_10 := blk_cell T 10
  have T_11 := blk_cell T 11
  simp only [List.getElem?_toArray, List.getElem?_cons_zero, List.getElem?_cons_succ] at T_0 T_1 T_2 T_3 T_4 T_5 T_6 T_7 T_8 T_9 T_10 T_11
  have T_l := blk_lt T
  have HT := Aside0.mk T
  clear T
  have n0 := Aside0.mk (below_step (by repeat (first | (with_reducible first | exact HB.out | apply below_alloc | apply pw_below_drewN | apply below_drew1) | refine below_set ?_ (by omega))) hb1)
  clear HB hb1
  have HB := n0
  clear n0
  clear hr0 hR3
  have h3 := HO2.out
  cases z1 : (ol == 0)
  · rw [z1] at h3
    have z2 : (t != d) = true := by simpa using h3
    have z3 : (t == d) = false := by simpa using z2
    clear h3
    go_wp2
    go_ret
    exact ⟨rfl, by repeat (first | (with_reducible first | exact HB.out | apply below_alloc | apply pw_below_drewN | apply below_drew1) | refine below_set ?_ (by omega))⟩
  · clear h3
    go_wp2
    go_ret
    exact ⟨rfl, by repeat (first | (with_reducible first | exact HB.out | apply below_alloc | apply pw_below_drewN | apply below_drew1) | refine below_set ?_ (by omega))⟩
end Go.Proofs.Ytloljhopccpeeaa.Q4

