/-
  Proved here: what pacesetterlaw18.BatchRoom returns, whatever the input: true. No condition.
-/
import Derived.Test.YtfnpepfabbgpfaaB6
import Derived.Test.YtfnpepfabbgpfaaB5
namespace Go.Proofs.Ytfnpepfabbgpfaa.WalkBatchRoom
open Go.RowKit Go.Sort Go.Proofs.Ytfnpepfabbgpfaa.B0 Go.Proofs.Ytfnpepfabbgpfaa.Mild Go.Proofs.Ytfnpepfabbgpfaa.B1 Go.Proofs.Ytfnpepfabbgpfaa.B1z Go.Proofs.Ytfnpepfabbgpfaa.B2 Go.Proofs.Ytfnpepfabbgpfaa.B3 Go.Proofs.Ytfnpepfabbgpfaa.B5 Go.Proofs.YtfnpepfabbgpfaaW.PrintWords Go.Proofs.YtfnpepfabbgpfaaW.PrintLast Go.Proofs.YtfnpepfabbgpfaaW.PrintMore
open B4 (lowV highV on_q)
set_option linter.unusedVariables false
set_option linter.unusedSimpArgs false
attribute [local go_sem] max2_int min2_int max_two min_two mild mildAt

def sel (z : Bool) (a b : Int) : Int := if z = true then a else b
theorem on_c (v d s u st s0 s1 s2 s3 p q r i : Int) (w : World) : Calls Try.prog 18 #[.agg #[.int .i64 v, .int .i64 d, .int .i64 s, .int .i64 u, .int .i64 st, .int .i64 s0, .int .i64 s1, .int .i64 s2, .int .i64 s3, .int .i64 p, .int .i64 q, .int .i64 r], .int .i64 i] w fun e w' =>
    e = .returned (.agg #[.int .i64 (sel (targetV v d s u st s0 s1 s2 s3 p q r i == 0) 0 v), .int .i64 (targetV v d s u st s0 s1 s2 s3 p q r i), .int .i64 (sel (targetV v d s u st s0 s1 s2 s3 p q r i == 0) 0 d), .int .i64 (sel (targetV v d s u st s0 s1 s2 s3 p q r i == 0) 0 (lowV d u)), .int .i64 (sel (targetV v d s u st s0 s1 s2 s3 p q r i == 0) 0 (highV d s)), .bool (!(targetV v d s u st s0 s1 s2 s3 p q r i == 0) && (st == 2))]) ∧ Over w w' := by
  refine (on_q v d s u st s0 s1 s2 s3 p q r i w).mono fun e w' h => ⟨?_, h.2⟩
  rw [h.1]
  cases hz : (targetV v d s u st s0 s1 s2 s3 p q r i == 0) with
  | true =>
    have : targetV v d s u st s0 s1 s2 s3 p q r i = 0 := by simpa using hz
    rw [this]
    rfl
  | false => rfl
theorem blk6 {w : World} {g : Nat} {t : TypeId} {c0 c1 c2 c3 c4 c5 : Value} (h : IsBlk w g #[c0, c1, c2, c3, c4, c5] t) (e0 e1 e2 e3 e4 e5 : Value) : IsBlk ((((((w.setCell ⟨g, 0, none⟩ e0).setCell ⟨g, 1, none⟩ e1).setCell ⟨g, 2, none⟩ e2).setCell ⟨g, 3, none⟩ e3).setCell ⟨g, 4, none⟩ e4).setCell ⟨g, 5, none⟩ e5) g #[e0, e1, e2, e3, e4, e5] t := by
  unfold IsBlk at *
  refine blk_put (cs := #[e0, e1, e2, e3, e4, c5]) ?_ 5 _ rfl
  refine blk_put (cs := #[e0, e1, e2, e3, c4, c5]) ?_ 4 _ rfl
  refine blk_put (cs := #[e0, e1, e2, c3, c4, c5]) ?_ 3 _ rfl
  refine blk_put (cs := #[e0, e1, c2, c3, c4, c5]) ?_ 2 _ rfl
  refine blk_put (cs := #[e0, c1, c2, c3, c4, c5]) ?_ 1 _ rfl
  refine blk_put (cs := #[c0, c1, c2, c3, c4, c5]) ?_ 0 _ rfl
  exact h
theorem raw_mod (n k : Int) (hk : 0 < k) (hk' : k ≤ 1073741824) : wrap64 ((IntKind.u64.wrap n).tmod k) = (n % 18446744073709551616) % k := by
  rw [u64_wrap, Int.tmod_eq_emod_of_nonneg (Int.emod_nonneg _ (by decide))]
  have h1 := Int.emod_nonneg (n % 18446744073709551616) (by omega : k ≠ 0)
  have h2 := Int.emod_lt_of_pos (n % 18446744073709551616) hk
  exact wrap64_eq (by omega) (by omega)
theorem low_high {d s u : Int} (hd : 1 ≤ d ∧ d ≤ 5) (hs : 0 ≤ s ∧ s ≤ 6) (hu : 0 ≤ u ∧ u ≤ d) : lowV d u = d - u ∧ highV d s = d + s := by
  have e (n : Int) (h : 0 ≤ n ∧ n ≤ 1000) : B4.cut n = n := by unfold B4.cut mn mx; (repeat' split) <;> omega
  unfold lowV highV
  rw [e d (by omega), e s (by omega), e u (by omega), e 0 (by omega), wrap64_eq (n := d + s) (by omega) (by omega), wrap64_eq (n := d + s - 0) (by omega) (by omega)]
  have e2 : mx (wrap64 (d - u)) 0 = d - u := by rw [wrap64_eq (by omega) (by omega)]; unfold mx; split <;> omega
  rw [e2, wrap64_eq (n := d - u - 0) (by omega) (by omega)]
  unfold mx
  constructor <;> (split <;> omega)
theorem target_in {v d s u st s0 s1 s2 s3 p q r : Int} (h : Made v d s u st s0 s1 s2 s3 p q r) (i : Int) : 0 ≤ targetV v d s u st s0 s1 s2 s3 p q r i ∧ targetV v d s u st s0 s1 s2 s3 p q r i ≤ d := by
  obtain ⟨m, hl, hm, _, hall⟩ := rises h
  have hd := h.m_d
  unfold targetV
  split
  · rename_i hi
    have := hall i.toNat (by omega)
    omega
  · omega

set_option maxRecDepth 100000 in
set_option maxHeartbeats 8000000 in
theorem walk (v d s u st s0 s1 s2 s3 p q r sg fr : Int) (w : World) (_ : (Lit.int .i64 sg).wf = true) (_ : (Lit.int .i64 fr).wf = true) : Calls Try.prog 7 #[.agg #[.int .i64 v, .int .i64 d, .int .i64 s, .int .i64 u, .int .i64 st, .int .i64 s0, .int .i64 s1, .int .i64 s2, .int .i64 s3, .int .i64 p, .int .i64 q, .int .i64 r], .int .i64 sg, .int .i64 fr] w fun e w' => e = .returned (.bool true) ∧ Below w.heap.size w w' := by
  have HB := Aside0.mk (Below.refl w.heap.size w)
  go_enter Try.func7, Try.ntmps7
  go_wp2_with fail
  refine (B4.lives_q _).mono ?_
  rintro e w1 ⟨rfl, hb1⟩
  have D : IsBlk w1 (w.heap.size) #[.int .i64 v, .int .i64 d, .int .i64 s, .int .i64 u, .int .i64 st, .int .i64 s0, .int .i64 s1, .int .i64 s2, .int .i64 s3, .int .i64 p, .int .i64 q, .int .i64 r] 24 := IsBlk.below (by repeat (first | ((refine IsBlk.new _ _ ?_); (simp; done)) | apply IsBlk.alloc | apply IsBlk.drewN)) hb1
  have D_0 := blk_cell D 0
  have D_1 := blk_cell D 1
  have D_2 := blk_cell D 2
  have D_3 := blk_cell D 3
  have D_4 := blk_cell D 4
  have D_5 := blk_cell D 5
  have D_6 := blk_cell D 6
  have D_7 := blk_cell D 7
  have D_8 := blk_cell D 8
  have D_9 := blk_cell D 9
  have D_10 := blk_cell D 10
  have D_11 := blk_cell D 11
  simp only [List.getElem?_toArray, List.getElem?_cons_zero, List.getElem?_cons_succ] at D_0 D_1 D_2 D_3 D_4 D_5 D_6 D_7 D_8 D_9 D_10 D_11
  have D_z0 := blk_frozen D 0
  have D_z1 := blk_frozen D 1
  have D_z2 := blk_frozen D 2
  have D_z3 := blk_frozen D 3
  have D_z4 := blk_frozen D 4
  have D_z5 := blk_frozen D 5
  have D_z6 := blk_frozen D 6
  have D_z7 := blk_frozen D 7
  have D_z8 := blk_frozen D 8
  have D_z9 := blk_frozen D 9
  have D_z10 := blk_frozen D 10
  have D_z11 := blk_frozen D 11
  have D_l := blk_lt D
  have HD := Aside0.mk D
  clear D
  have n0 := Aside0.mk (below_step (by repeat (first | (with_reducible first | exact HB.out | apply below_alloc | apply pw_below_drewN | apply below_drew1) | refine below_set ?_ (by omega))) hb1)
  clear HB hb1
  have HB := n0
  clear n0
  go_wp2_with fail
  refine (good_q v d s u st s0 s1 s2 s3 p q r _).mono ?_
  rintro e w2 ⟨y0, y1, y2, y3, y4, y5, y6, y7, y8, y9, y10, y11, rfl, hM, hb1⟩
  have D' := IsBlk.below (by repeat (with_reducible first | exact HD.out | apply IsBlk.alloc | apply IsBlk.drewN | apply IsBlk.drew)) hb1
  clear D_0 D_1 D_2 D_3 D_4 D_5 D_6 D_7 D_8 D_9 D_10 D_11 D_z0 D_z1 D_z2 D_z3 D_z4 D_z5 D_z6 D_z7 D_z8 D_z9 D_z10 D_z11 D_l HD
  have D := D'
  clear D'
  have D_0 := blk_cell D 0
  have D_1 := blk_cell D 1
  have D_2 := blk_cell D 2
  have D_3 := blk_cell D 3
  have D_4 := blk_cell D 4
  have D_5 := blk_cell D 5
  have D_6 := blk_cell D 6
  have D_7 := blk_cell D 7
  have D_8 := blk_cell D 8
  have D_9 := blk_cell D 9
  have D_10 := blk_cell D 10
  have D_11 := blk_cell D 11
  simp only [List.getElem?_toArray, List.getElem?_cons_zero, List.getElem?_cons_succ] at D_0 D_1 D_2 D_3 D_4 D_5 D_6 D_7 D_8 D_9 D_10 D_11
  have D_z0 := blk_frozen D 0
  have D_z1 := blk_frozen D 1
  have D_z2 := blk_frozen D 2
  have D_z3 := blk_frozen D 3
  have D_z4 := blk_frozen D 4
  have D_z5 := blk_frozen D 5
  have D_z6 := blk_frozen D 6
  have D_z7 := blk_frozen D 7
  have D_z8 := blk_frozen D 8
  have D_z9 := blk_frozen D 9
  have D_z10 := blk_frozen D 10
  have D_z11 := blk_frozen D 11
  have D_l := blk_lt D
  have HD := Aside0.mk D
  clear D
  have n0 := Aside0.mk (below_step (by repeat (first | (with_reducible first | exact HB.out | apply below_alloc | apply pw_below_drewN | apply below_drew1) | refine below_set ?_ (by omega))) hb1)
  clear HB hb1
  have HB := n0
  clear n0
  have hd := hM.m_d
  have hs := hM.m_s
  have hu := hM.m_u
  have hv := hM.m_v
  have hsu := hM.m_su
  have hs2 := hM.m_s2
  have hok := made_ok hM
  have hti := target_in hM
  obtain ⟨hlo, hhi⟩ := low_high hd hs hu
  have HM := Aside0.mk hM
  have HOK := Aside0.mk hok
  have HTI := Aside0.mk hti
  have HLO0 := Aside0.mk hlo
  have HHI0 := Aside0.mk hhi
  have HS2 := Aside0.mk hs2
  have HSU := Aside0.mk hsu
  clear hM hok hti hlo hhi hs2 hsu
  go_wp2_with fail
  have D9 : Aside0 (IsBlk ((((((((((((w2.setCell ⟨w.heap.size, 0, none⟩ (.int .i64 y0)).setCell ⟨w.heap.size, 1, none⟩ (.int .i64 y1)).setCell ⟨w.heap.size, 2, none⟩ (.int .i64 y2)).setCell ⟨w.heap.size, 3, none⟩ (.int .i64 y3)).setCell ⟨w.heap.size, 4, none⟩ (.int .i64 y4)).setCell ⟨w.heap.size, 5, none⟩ (.int .i64 y5)).setCell ⟨w.heap.size, 6, none⟩ (.int .i64 y6)).setCell ⟨w.heap.size, 7, none⟩ (.int .i64 y7)).setCell ⟨w.heap.size, 8, none⟩ (.int .i64 y8)).setCell ⟨w.heap.size, 9, none⟩ (.int .i64 y9)).setCell ⟨w.heap.size, 10, none⟩ (.int .i64 y10)).setCell ⟨w.heap.size, 11, none⟩ (.int .i64 y11)) w.heap.size #[.int .i64 y0, .int .i64 y1, .int .i64 y2, .int .i64 y3, .int .i64 y4, .int .i64 y5, .int .i64 y6, .int .i64 y7, .int .i64 y8, .int .i64 y9, .int .i64 y10, .int .i64 y11] 24) := ⟨blk12 HD.out _ _ _ _ _ _ _ _ _ _ _ _⟩
  have B9 : Aside0 (Below w.heap.size w ((((((((((((w2.setCell ⟨w.heap.size, 0, none⟩ (.int .i64 y0)).setCell ⟨w.heap.size, 1, none⟩ (.int .i64 y1)).setCell ⟨w.heap.size, 2, none⟩ (.int .i64 y2)).setCell ⟨w.heap.size, 3, none⟩ (.int .i64 y3)).setCell ⟨w.heap.size, 4, none⟩ (.int .i64 y4)).setCell ⟨w.heap.size, 5, none⟩ (.int .i64 y5)).setCell ⟨w.heap.size, 6, none⟩ (.int .i64 y6)).setCell ⟨w.heap.size, 7, none⟩ (.int .i64 y7)).setCell ⟨w.heap.size, 8, none⟩ (.int .i64 y8)).setCell ⟨w.heap.size, 9, none⟩ (.int .i64 y9)).setCell ⟨w.heap.size, 10, none⟩ (.int .i64 y10)).setCell ⟨w.heap.size, 11, none⟩ (.int .i64 y11))) := ⟨by repeat (first | (with_reducible exact HB.out) | refine below_set ?_ (Nat.le_refl _))⟩
  clear D_0 D_1 D_2 D_3 D_4 D_5 D_6 D_7 D_8 D_9 D_10 D_11 D_z0 D_z1 D_z2 D_z3 D_z4 D_z5 D_z6 D_z7 D_z8 D_z9 D_z10 D_z11 D_l HD
  clear HB
  generalize ((((((((((((w2.setCell ⟨w.heap.size, 0, none⟩ (.int .i64 y0)).setCell ⟨w.heap.size, 1, none⟩ (.int .i64 y1)).setCell ⟨w.heap.size, 2, none⟩ (.int .i64 y2)).setCell ⟨w.heap.size, 3, none⟩ (.int .i64 y3)).setCell ⟨w.heap.size, 4, none⟩ (.int .i64 y4)).setCell ⟨w.heap.size, 5, none⟩ (.int .i64 y5)).setCell ⟨w.heap.size, 6, none⟩ (.int .i64 y6)).setCell ⟨w.heap.size, 7, none⟩ (.int .i64 y7)).setCell ⟨w.heap.size, 8, none⟩ (.int .i64 y8)).setCell ⟨w.heap.size, 9, none⟩ (.int .i64 y9)).setCell ⟨w.heap.size, 10, none⟩ (.int .i64 y10)).setCell ⟨w.heap.size, 11, none⟩ (.int .i64 y11)) = w9 at *
  have HB := B9
  have D := D9.out
  have HD9 := D9
  clear B9 D9
  have D_0 := blk_cell D 0
  have D_1 := blk_cell D 1
  have D_2 := blk_cell D 2
  have D_3 := blk_cell D 3
  have D_4 := blk_cell D 4
  have D_5 := blk_cell D 5
  have D_6 := blk_cell D 6
  have D_7 := blk_cell D 7
  have D_8 := blk_cell D 8
  have D_9 := blk_cell D 9
  have D_10 := blk_cell D 10
  have D_11 := blk_cell D 11
  simp only [List.getElem?_toArray, List.getElem?_cons_zero, List.getElem?_cons_succ] at D_0 D_1 D_2 D_3 D_4 D_5 D_6 D_7 D_8 D_9 D_10 D_11
  have D_l := blk_lt D
  have HD := Aside0.mk D
  clear D
  have r_0 := cell_regrown D_0
  have r_1 := cell_regrown D_1
  have r_2 := cell_regrown D_2
  have r_3 := cell_regrown D_3
  have r_4 := cell_regrown D_4
  have r_5 := cell_regrown D_5
  have r_6 := cell_regrown D_6
  have r_7 := cell_regrown D_7
  have r_8 := cell_regrown D_8
  have r_9 := cell_regrown D_9
  have r_10 := cell_regrown D_10
  have r_11 := cell_regrown D_11
  clear D_0 D_1 D_2 D_3 D_4 D_5 D_6 D_7 D_8 D_9 D_10 D_11
  obtain ⟨n, hn⟩ : ∃ n, (targetsL y0 y1 y2 y3 y4 y5 y6 y7 y8 y9 y10 y11).length = n := ⟨_, rfl⟩
  have hn5 := targets_upto y0 y1 y2 y3 y4 y5 y6 y7 y8 y9 y10 y11
  rw [hn] at hn5
  have c13 : ∀ w, Calls Try.prog 13 #[.agg #[.int .i64 y0, .int .i64 y1, .int .i64 y2, .int .i64 y3, .int .i64 y4, .int .i64 y5, .int .i64 y6, .int .i64 y7, .int .i64 y8, .int .i64 y9, .int .i64 y10, .int .i64 y11]] w fun e w' => e = .returned (.int .i64 (n : Int)) ∧ Over w w' := fun w => by have h := stages_q y0 y1 y2 y3 y4 y5 y6 y7 y8 y9 y10 y11 w; rw [hn] at h; exact h
  have C13 := Aside0.mk c13
  clear c13 hn
  have q1 : IntKind.i64.wrap ((n : Int) + 1) = (n : Int) + 1 := by rw [i64_wrap64]; exact wrap64_eq (by omega) (by omega)
  have q2 : IntKind.u64.wrap ((n : Int) + 1) = (n : Int) + 1 := by rw [u64_wrap]; omega
  have q3 : ¬ ((n : Int) + 1 = 0) := by omega
  go_cut [7] (fun v7 wc => ∃ (g : Nat) (i : Int), v7 = .pointer (some ⟨g, 0, none⟩) ∧ w.heap.size < g ∧ Aside0 (IsBlk wc g #[.int .i64 (sel (targetV y0 y1 y2 y3 y4 y5 y6 y7 y8 y9 y10 y11 i == 0) 0 y0), .int .i64 (targetV y0 y1 y2 y3 y4 y5 y6 y7 y8 y9 y10 y11 i), .int .i64 (sel (targetV y0 y1 y2 y3 y4 y5 y6 y7 y8 y9 y10 y11 i == 0) 0 y1), .int .i64 (sel (targetV y0 y1 y2 y3 y4 y5 y6 y7 y8 y9 y10 y11 i == 0) 0 (lowV y1 y3)), .int .i64 (sel (targetV y0 y1 y2 y3 y4 y5 y6 y7 y8 y9 y10 y11 i == 0) 0 (highV y1 y2)), .bool (!(targetV y0 y1 y2 y3 y4 y5 y6 y7 y8 y9 y10 y11 i == 0) && (y4 == 2))] 38) ∧ Aside0 (IsBlk wc w.heap.size #[.int .i64 y0, .int .i64 y1, .int .i64 y2, .int .i64 y3, .int .i64 y4, .int .i64 y5, .int .i64 y6, .int .i64 y7, .int .i64 y8, .int .i64 y9, .int .i64 y10, .int .i64 y11] 24) ∧ Aside0 (Below w.heap.size w wc))
  case first =>
    refine wp_region_mild 10 (by kernel_rfl) (by kernel_rfl) _ _ (.cells #[.int .i64 0, .int .i64 0, .int .i64 0, .int .i64 0, .int .i64 0, .bool false] 38) rfl rfl rfl ?hA ?_
    case hA =>
      intro K a w hK
      refine wpOp_step rfl (fun K' hK' => ?_)
      go_simp
      exact hK' _ _ hK
    intro Lq HLq
    simp only [List.take_succ_cons, List.take_zero]
    repeat (
      refine WM_step ?_
      intro K hK
      go_simp
      first
        | (refine hK _ ?_; clear hK K)
        | (apply Exists.intro
           refine ⟨fun dq os => ?_, hK _ ?_⟩
           (first | (go_at_call 13; with_reducible exact C13.out _) | (go_at_call 18; with_reducible exact on_c _ _ _ _ _ _ _ _ _ _ _ _ _ _))
           clear hK K))
    refine WM_nil (HLq.out _ ?_)
    intro g w' hb hg hob
    have E : IsBlk w' g #[.int .i64 0, .int .i64 0, .int .i64 0, .int .i64 0, .int .i64 0, .bool false] 38 := hob
    have E_0 := blk_cell E 0
    have E_1 := blk_cell E 1
    have E_2 := blk_cell E 2
    have E_3 := blk_cell E 3
    have E_4 := blk_cell E 4
    have E_5 := blk_cell E 5
    simp only [List.getElem?_toArray, List.getElem?_cons_zero, List.getElem?_cons_succ] at E_0 E_1 E_2 E_3 E_4 E_5
    have E_z0 := blk_frozen E 0
    have E_z1 := blk_frozen E 1
    have E_z2 := blk_frozen E 2
    have E_z3 := blk_frozen E 3
    have E_z4 := blk_frozen E 4
    have E_z5 := blk_frozen E 5
    have E_l := blk_lt E
    have HE := Aside0.mk E
    clear E
    have hB := Aside0.mk (below_step HB.out hb)
    have hD := Aside0.mk (IsBlk.below HD9.out hb)
    have hg1 : w.heap.size < g := Nat.lt_of_lt_of_le D_l hg
    have hgn : w.heap.size ≠ g := by omega
    clear hob hb hg
    go_wp2_with fail
    go_meet
    refine ⟨g, _, rfl, hg1, ⟨blk6 HE.out _ _ _ _ _ _⟩, ⟨?_⟩, ⟨?_⟩⟩
    · repeat (first | (with_reducible exact hD.out) | refine IsBlk.far ?_ hgn _)
    · repeat (first | (with_reducible exact hB.out) | refine below_set ?_ (by omega))
  case rest =>
    clear r_0 r_1 r_2 r_3 r_4 r_5 r_6 r_7 r_8 r_9 r_10 r_11 HD HB HD9 D_l q1 q2 q3
    obtain ⟨g, i, rfl, hg, HG0, HD0, HB⟩ := hcut
    have hti := HTI.out i
    have lo_ := HLO0.out
    have hi_ := HHI0.out
    have hsu := HSU.out
    have hs2 := HS2.out
    obtain ⟨lo, hlo⟩ : ∃ x, lowV y1 y3 = x := ⟨_, rfl⟩
    obtain ⟨hi, hhi⟩ : ∃ x, highV y1 y2 = x := ⟨_, rfl⟩
    obtain ⟨t, ht⟩ : ∃ x, targetV y0 y1 y2 y3 y4 y5 y6 y7 y8 y9 y10 y11 i = x := ⟨_, rfl⟩
    rw [ht] at hti HG0
    rw [hlo] at lo_ HG0
    rw [hhi] at hi_ HG0
    have HLO := Aside0.mk hlo
    have HHI := Aside0.mk hhi
    have hlh : lo < hi := by omega
    have hlo2 : 0 ≤ lo := by omega
    have hhi2 : y1 ≤ hi := by omega
    have hbl : y4 = 2 → 2 * y1 ≤ hi := fun h => by have := hs2 h; omega
    have HBL := Aside0.mk hbl
    clear lo_ hi_ hsu hs2 hbl
    clear hlo hhi ht HM HTI HLO0 HHI0 HS2 HSU
    have D := HD0.out
    clear HD0
    have D_0 := blk_cell D 0
    have D_1 := blk_cell D 1
    have D_2 := blk_cell D 2
    have D_3 := blk_cell D 3
    have D_4 := blk_cell D 4
    have D_5 := blk_cell D 5
    have D_6 := blk_cell D 6
    have D_7 := blk_cell D 7
    have D_8 := blk_cell D 8
    have D_9 := blk_cell D 9
    have D_10 := blk_cell D 10
    have D_11 := blk_cell D 11
    simp only [List.getElem?_toArray, List.getElem?_cons_zero, List.getElem?_cons_succ] at D_0 D_1 D_2 D_3 D_4 D_5 D_6 D_7 D_8 D_9 D_10 D_11
    have D_l := blk_lt D
    have HD := Aside0.mk D
    clear D
    obtain ⟨j, hj⟩ : ∃ j, wrap64 ((IntKind.u64.wrap fr).tmod 9) = j := ⟨_, rfl⟩
    have hj9 : 0 ≤ j ∧ j < 9 := by rw [← hj, raw_mod fr 9 (by decide) (by decide)]; omega
    by_cases hz : t = 0
    · subst hz
      have G := HG0.out
      clear HG0
      simp only [sel] at G
      replace G : IsBlk wc g #[.int .i64 0, .int .i64 0, .int .i64 0, .int .i64 0, .int .i64 0, .bool false] 38 := G
      have G_0 := blk_cell G 0
      have G_1 := blk_cell G 1
      have G_2 := blk_cell G 2
      have G_3 := blk_cell G 3
      have G_4 := blk_cell G 4
      have G_5 := blk_cell G 5
      simp only [List.getElem?_toArray, List.getElem?_cons_zero, List.getElem?_cons_succ] at G_0 G_1 G_2 G_3 G_4 G_5
      have G_l := blk_lt G
      have HG := Aside0.mk G
      clear G
      go_wp2_with fail
      (try rw [hj])
      have hj1 : decide (j < 0) = false := by simp; omega
      cases hj2 : (j == 0) with
      | true =>
        obtain rfl : j = 0 := by simpa using hj2
        have u1 : decide (0 ≤ hi) = true := by simp; omega
        have u2 : decide (0 < hi) = true := by simp; omega
        refine (B6.back_0 y0 y1 y2 y3 y4 y5 y6 y7 y8 y9 y10 y11 0 _ HOK.out rfl).mono ?_
        rw [HHI.out]
        rintro e w5 ⟨rfl, hb1⟩
        have D' := IsBlk.below (by repeat (with_reducible first | exact HD.out | apply IsBlk.alloc | apply IsBlk.drewN | apply IsBlk.drew)) hb1
        clear D_0 D_1 D_2 D_3 D_4 D_5 D_6 D_7 D_8 D_9 D_10 D_11 D_l HD
        have D := D'
        clear D'
        have D_0 := blk_cell D 0
        have D_1 := blk_cell D 1
        have D_2 := blk_cell D 2
        have D_3 := blk_cell D 3
        have D_4 := blk_cell D 4
        have D_5 := blk_cell D 5
        have D_6 := blk_cell D 6
        have D_7 := blk_cell D 7
        have D_8 := blk_cell D 8
        have D_9 := blk_cell D 9
        have D_10 := blk_cell D 10
        have D_11 := blk_cell D 11
        simp only [List.getElem?_toArray, List.getElem?_cons_zero, List.getElem?_cons_succ] at D_0 D_1 D_2 D_3 D_4 D_5 D_6 D_7 D_8 D_9 D_10 D_11
        have D_l := blk_lt D
        have HD := Aside0.mk D
        clear D
        have G' := IsBlk.below (by repeat (with_reducible first | exact HG.out | apply IsBlk.alloc | apply IsBlk.drewN | apply IsBlk.drew)) hb1
        clear G_0 G_1 G_2 G_3 G_4 G_5 G_l HG
        have G := G'
        clear G'
        have G_0 := blk_cell G 0
        have G_1 := blk_cell G 1
        have G_2 := blk_cell G 2
        have G_3 := blk_cell G 3
        have G_4 := blk_cell G 4
        have G_5 := blk_cell G 5
        simp only [List.getElem?_toArray, List.getElem?_cons_zero, List.getElem?_cons_succ] at G_0 G_1 G_2 G_3 G_4 G_5
        have G_l := blk_lt G
        have HG := Aside0.mk G
        clear G
        have n0 := Aside0.mk (below_step (by repeat (first | (with_reducible first | exact HB.out | apply below_alloc | apply pw_below_drewN | apply below_drew1) | refine below_set ?_ (by omega))) hb1)
        clear HB hb1
        have HB := n0
        clear n0
        go_wp2
        go_ret
        exact ⟨rfl, by repeat (first | (with_reducible first | exact HB.out | apply below_alloc | apply pw_below_drewN | apply below_drew1) | refine below_set ?_ (by omega))⟩
      | false =>
        have u1 : decide (y1 ≤ hi) = true := by simp; omega
        have u2 : decide (lo < hi) = true := by simp; omega
        have u3 : decide (0 < j) = true := by simp at hj2 ⊢; omega
        have u4 : decide (0 < y1) = true := by simp; omega
        refine (B6.back_i y0 y1 y2 y3 y4 y5 y6 y7 y8 y9 y10 y11 j _ HOK.out hj1 hj2).mono ?_
        rw [HLO.out, HHI.out]
        rintro e w5 ⟨rfl, hb1⟩
        have D' := IsBlk.below (by repeat (with_reducible first | exact HD.out | apply IsBlk.alloc | apply IsBlk.drewN | apply IsBlk.drew)) hb1
        clear D_0 D_1 D_2 D_3 D_4 D_5 D_6 D_7 D_8 D_9 D_10 D_11 D_l HD
        have D := D'
        clear D'
        have D_0 := blk_cell D 0
        have D_1 := blk_cell D 1
        have D_2 := blk_cell D 2
        have D_3 := blk_cell D 3
        have D_4 := blk_cell D 4
        have D_5 := blk_cell D 5
        have D_6 := blk_cell D 6
        have D_7 := blk_cell D 7
        have D_8 := blk_cell D 8
        have D_9 := blk_cell D 9
        have D_10 := blk_cell D 10
        have D_11 := blk_cell D 11
        simp only [List.getElem?_toArray, List.getElem?_cons_zero, List.getElem?_cons_succ] at D_0 D_1 D_2 D_3 D_4 D_5 D_6 D_7 D_8 D_9 D_10 D_11
        have D_l := blk_lt D
        have HD := Aside0.mk D
        clear D
        have G' := IsBlk.below (by repeat (with_reducible first | exact HG.out | apply IsBlk.alloc | apply IsBlk.drewN | apply IsBlk.drew)) hb1
        clear G_0 G_1 G_2 G_3 G_4 G_5 G_l HG
        have G := G'
        clear G'
        have G_0 := blk_cell G 0
        have G_1 := blk_cell G 1
        have G_2 := blk_cell G 2
        have G_3 := blk_cell G 3
        have G_4 := blk_cell G 4
        have G_5 := blk_cell G 5
        simp only [List.getElem?_toArray, List.getElem?_cons_zero, List.getElem?_cons_succ] at G_0 G_1 G_2 G_3 G_4 G_5
        have G_l := blk_lt G
        have HG := Aside0.mk G
        clear G
        have n0 := Aside0.mk (below_step (by repeat (first | (with_reducible first | exact HB.out | apply below_alloc | apply pw_below_drewN | apply below_drew1) | refine below_set ?_ (by omega))) hb1)
        clear HB hb1
        have HB := n0
        clear n0
        go_wp2
        go_ret
        exact ⟨rfl, by repeat (first | (with_reducible first | exact HB.out | apply below_alloc | apply pw_below_drewN | apply below_drew1) | refine below_set ?_ (by omega))⟩
    · have G := HG0.out
      clear HG0
      have hz1 : (t == 0) = false := by simpa using hz
      rw [hz1] at G
      replace G : IsBlk wc g #[.int .i64 y0, .int .i64 t, .int .i64 y1, .int .i64 lo, .int .i64 hi, .bool (y4 == 2)] 38 := G
      have G_0 := blk_cell G 0
      have G_1 := blk_cell G 1
      have G_2 := blk_cell G 2
      have G_3 := blk_cell G 3
      have G_4 := blk_cell G 4
      have G_5 := blk_cell G 5
      simp only [List.getElem?_toArray, List.getElem?_cons_zero, List.getElem?_cons_succ] at G_0 G_1 G_2 G_3 G_4 G_5
      have G_l := blk_lt G
      have HG := Aside0.mk G
      clear G
      have f0 : (y0 == 0) = false := by simp; omega
      have f2 : decide (t < 1) = false := by simp; omega
      have f3 : decide (y1 < t) = false := by simp; omega
      have f4 : decide (hi < y1) = false := by simp; omega
      have f5 : decide (hi ≤ lo) = false := by simp; omega
      have f6 : decide (lo < 0) = false := by simp; omega
      have f7 : y4 = 2 → decide (hi < 2 * y1) = false := fun h => by have := HBL.out h; simp; omega
      have F7 := Aside0.mk f7
      clear f7 hz hti
      cases hb4 : (y4 == 2) with
      | true =>
        have f7 := F7.out (by simpa using hb4)
        rw [hb4] at G_5 HG
        go_wp2_with fail
        (try rw [hj])
        have hj1 : decide (j < 0) = false := by simp; omega
        cases hj2 : (j == 0) with
        | true =>
          obtain rfl : j = 0 := by simpa using hj2
          have u1 : decide (0 ≤ hi) = true := by simp; omega
          have u2 : decide (0 < hi) = true := by simp; omega
          refine (B6.back_0 y0 y1 y2 y3 y4 y5 y6 y7 y8 y9 y10 y11 0 _ HOK.out rfl).mono ?_
          rw [HHI.out]
          rintro e w5 ⟨rfl, hb1⟩
          have D' := IsBlk.below (by repeat (with_reducible first | exact HD.out | apply IsBlk.alloc | apply IsBlk.drewN | apply IsBlk.drew)) hb1
          clear D_0 D_1 D_2 D_3 D_4 D_5 D_6 D_7 D_8 D_9 D_10 D_11 D_l HD
          have D := D'
          clear D'
          have D_0 := blk_cell D 0
          have D_1 := blk_cell D 1
          have D_2 := blk_cell D 2
          have D_3 := blk_cell D 3
          have D_4 := blk_cell D 4
          have D_5 := blk_cell D 5
          have D_6 := blk_cell D 6
          have D_7 := blk_cell D 7
          have D_8 := blk_cell D 8
          have D_9 := blk_cell D 9
          have D_10 := blk_cell D 10
          have D_11 := blk_cell D 11
          simp only [List.getElem?_toArray, List.getElem?_cons_zero, List.getElem?_cons_succ] at D_0 D_1 D_2 D_3 D_4 D_5 D_6 D_7 D_8 D_9 D_10 D_11
          have D_l := blk_lt D
          have HD := Aside0.mk D
          clear D
          have G' := IsBlk.below (by repeat (with_reducible first | exact HG.out | apply IsBlk.alloc | apply IsBlk.drewN | apply IsBlk.drew)) hb1
          clear G_0 G_1 G_2 G_3 G_4 G_5 G_l HG
          have G := G'
          clear G'
          have G_0 := blk_cell G 0
          have G_1 := blk_cell G 1
          have G_2 := blk_cell G 2
          have G_3 := blk_cell G 3
          have G_4 := blk_cell G 4
          have G_5 := blk_cell G 5
          simp only [List.getElem?_toArray, List.getElem?_cons_zero, List.getElem?_cons_succ] at G_0 G_1 G_2 G_3 G_4 G_5
          have G_l := blk_lt G
          have HG := Aside0.mk G
          clear G
          have n0 := Aside0.mk (below_step (by repeat (first | (with_reducible first | exact HB.out | apply below_alloc | apply pw_below_drewN | apply below_drew1) | refine below_set ?_ (by omega))) hb1)
          clear HB hb1
          have HB := n0
          clear n0
          go_wp2
          go_ret
          exact ⟨rfl, by repeat (first | (with_reducible first | exact HB.out | apply below_alloc | apply pw_below_drewN | apply below_drew1) | refine below_set ?_ (by omega))⟩
        | false =>
          have u1 : decide (y1 ≤ hi) = true := by simp; omega
          have u2 : decide (lo < hi) = true := by simp; omega
          have u3 : decide (0 < j) = true := by simp at hj2 ⊢; omega
          have u4 : decide (0 < y1) = true := by simp; omega
          refine (B6.back_i y0 y1 y2 y3 y4 y5 y6 y7 y8 y9 y10 y11 j _ HOK.out hj1 hj2).mono ?_
          rw [HLO.out, HHI.out]
          rintro e w5 ⟨rfl, hb1⟩
          have D' := IsBlk.below (by repeat (with_reducible first | exact HD.out | apply IsBlk.alloc | apply IsBlk.drewN | apply IsBlk.drew)) hb1
          clear D_0 D_1 D_2 D_3 D_4 D_5 D_6 D_7 D_8 D_9 D_10 D_11 D_l HD
          have D := D'
          clear D'
          have D_0 := blk_cell D 0
          have D_1 := blk_cell D 1
          have D_2 := blk_cell D 2
          have D_3 := blk_cell D 3
          have D_4 := blk_cell D 4
          have D_5 := blk_cell D 5
          have D_6 := blk_cell D 6
          have D_7 := blk_cell D 7
          have D_8 := blk_cell D 8
          have D_9 := blk_cell D 9
          have D_10 := blk_cell D 10
          have D_11 := blk_cell D 11
          simp only [List.getElem?_toArray, List.getElem?_cons_zero, List.getElem?_cons_succ] at D_0 D_1 D_2 D_3 D_4 D_5 D_6 D_7 D_8 D_9 D_10 D_11
          have D_l := blk_lt D
          have HD := Aside0.mk D
          clear D
          have G' := IsBlk.below (by repeat (with_reducible first | exact HG.out | apply IsBlk.alloc | apply IsBlk.drewN | apply IsBlk.drew)) hb1
          clear G_0 G_1 G_2 G_3 G_4 G_5 G_l HG
          have G := G'
          clear G'
          have G_0 := blk_cell G 0
          have G_1 := blk_cell G 1
          have G_2 := blk_cell G 2
          have G_3 := blk_cell G 3
          have G_4 := blk_cell G 4
          have G_5 := blk_cell G 5
          simp only [List.getElem?_toArray, List.getElem?_cons_zero, List.getElem?_cons_succ] at G_0 G_1 G_2 G_3 G_4 G_5
          have G_l := blk_lt G
          have HG := Aside0.mk G
          clear G
          have n0 := Aside0.mk (below_step (by repeat (first | (with_reducible first | exact HB.out | apply below_alloc | apply pw_below_drewN | apply below_drew1) | refine below_set ?_ (by omega))) hb1)
          clear HB hb1
          have HB := n0
          clear n0
          go_wp2
          go_ret
          exact ⟨rfl, by repeat (first | (with_reducible first | exact HB.out | apply below_alloc | apply pw_below_drewN | apply below_drew1) | refine below_set ?_ (by omega))⟩
      | false =>
        rw [hb4] at G_5 HG
        go_wp2_with fail
        (try rw [hj])
        have hj1 : decide (j < 0) = false := by simp; omega
        cases hj2 : (j == 0) with
        | true =>
          obtain rfl : j = 0 := by simpa using hj2
          have u1 : decide (0 ≤ hi) = true := by simp; omega
          have u2 : decide (0 < hi) = true := by simp; omega
          refine (B6.back_0 y0 y1 y2 y3 y4 y5 y6 y7 y8 y9 y10 y11 0 _ HOK.out rfl).mono ?_
          rw [HHI.out]
          rintro e w5 ⟨rfl, hb1⟩
          have D' := IsBlk.below (by repeat (with_reducible first | exact HD.out | apply IsBlk.alloc | apply IsBlk.drewN | apply IsBlk.drew)) hb1
          clear D_0 D_1 D_2 D_3 D_4 D_5 D_6 D_7 D_8 D_9 D_10 D_11 D_l HD
          have D := D'
          clear D'
          have D_0 := blk_cell D 0
          have D_1 := blk_cell D 1
          have D_2 := blk_cell D 2
          have D_3 := blk_cell D 3
          have D_4 := blk_cell D 4
          have D_5 := blk_cell D 5
          have D_6 := blk_cell D 6
          have D_7 := blk_cell D 7
          have D_8 := blk_cell D 8
          have D_9 := blk_cell D 9
          have D_10 := blk_cell D 10
          have D_11 := blk_cell D 11
          simp only [List.getElem?_toArray, List.getElem?_cons_zero, List.getElem?_cons_succ] at D_0 D_1 D_2 D_3 D_4 D_5 D_6 D_7 D_8 D_9 D_10 D_11
          have D_l := blk_lt D
          have HD := Aside0.mk D
          clear D
          have G' := IsBlk.below (by repeat (with_reducible first | exact HG.out | apply IsBlk.alloc | apply IsBlk.drewN | apply IsBlk.drew)) hb1
          clear G_0 G_1 G_2 G_3 G_4 G_5 G_l HG
          have G := G'
          clear G'
          have G_0 := blk_cell G 0
          have G_1 := blk_cell G 1
          have G_2 := blk_cell G 2
          have G_3 := blk_cell G 3
          have G_4 := blk_cell G 4
          have G_5 := blk_cell G 5
          simp only [List.getElem?_toArray, List.getElem?_cons_zero, List.getElem?_cons_succ] at G_0 G_1 G_2 G_3 G_4 G_5
          have G_l := blk_lt G
          have HG := Aside0.mk G
          clear G
          have n0 := Aside0.mk (below_step (by repeat (first | (with_reducible first | exact HB.out | apply below_alloc | apply pw_below_drewN | apply below_drew1) | refine below_set ?_ (by omega))) hb1)
          clear HB hb1
          have HB := n0
          clear n0
          go_wp2
          go_ret
          exact ⟨rfl, by repeat (first | (with_reducible first | exact HB.out | apply below_alloc | apply pw_below_drewN | apply below_drew1) | refine below_set ?_ (by omega))⟩
        | false =>
          have u1 : decide (y1 ≤ hi) = true := by simp; omega
          have u2 : decide (lo < hi) = true := by simp; omega
          have u3 : decide (0 < j) = true := by simp at hj2 ⊢; omega
          have u4 : decide (0 < y1) = true := by simp; omega
          refine (B6.back_i y0 y1 y2 y3 y4 y5 y6 y7 y8 y9 y10 y11 j _ HOK.out hj1 hj2).mono ?_
          rw [HLO.out, HHI.out]
          rintro e w5 ⟨rfl, hb1⟩
          have D' := IsBlk.below (by repeat (with_reducible first | exact HD.out | apply IsBlk.alloc | apply IsBlk.drewN | apply IsBlk.drew)) hb1
          clear D_0 D_1 D_2 D_3 D_4 D_5 D_6 D_7 D_8 D_9 D_10 D_11 D_l HD
          have D := D'
          clear D'
          have D_0 := blk_cell D 0
          have D_1 := blk_cell D 1
          have D_2 := blk_cell D 2
          have D_3 := blk_cell D 3
          have D_4 := blk_cell D 4
          have D_5 := blk_cell D 5
          have D_6 := blk_cell D 6
          have D_7 := blk_cell D 7
          have D_8 := blk_cell D 8
          have D_9 := blk_cell D 9
          have D_10 := blk_cell D 10
          have D_11 := blk_cell D 11
          simp only [List.getElem?_toArray, List.getElem?_cons_zero, List.getElem?_cons_succ] at D_0 D_1 D_2 D_3 D_4 D_5 D_6 D_7 D_8 D_9 D_10 D_11
          have D_l := blk_lt D
          have HD := Aside0.mk D
          clear D
          have G' := IsBlk.below (by repeat (with_reducible first | exact HG.out | apply IsBlk.alloc | apply IsBlk.drewN | apply IsBlk.drew)) hb1
          clear G_0 G_1 G_2 G_3 G_4 G_5 G_l HG
          have G := G'
          clear G'
          have G_0 := blk_cell G 0
          have G_1 := blk_cell G 1
          have G_2 := blk_cell G 2
          have G_3 := blk_cell G 3
          have G_4 := blk_cell G 4
          have G_5 := blk_cell G 5
          simp only [List.getElem?_toArray, List.getElem?_cons_zero, List.getElem?_cons_succ] at G_0 G_1 G_2 G_3 G_4 G_5
          have G_l := blk_lt G
          have HG := Aside0.mk G
          clear G
          have n0 := Aside0.mk (below_step (by repeat (first | (with_reducible first | exact HB.out | apply below_alloc | apply pw_below_drewN | apply below_drew1) | refine below_set ?_ (by omega))) hb1)
          clear HB hb1
          have HB := n0
          clear n0
          go_wp2
          go_ret
          exact ⟨rfl, by repeat (first | (with_reducible first | exact HB.out | apply below_alloc | apply pw_below_drewN | apply below_drew1) | refine below_set ?_ (by omega))⟩
end Go.Proofs.Ytfnpepfabbgpfaa.WalkBatchRoom
