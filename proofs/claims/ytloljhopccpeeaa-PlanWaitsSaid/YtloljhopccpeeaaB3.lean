/-
  Proved here: what the reference's Good makes: a spec that may be. No condition.
-/
import Derived.Test.YtloljhopccpeeaaB1z
import Derived.StillTailTactics
import Derived.Carry
namespace Go.Proofs.Ytloljhopccpeeaa.B3
open Go.RowKit Go.Sort Go.Proofs.Ytloljhopccpeeaa.B0 Go.Proofs.Ytloljhopccpeeaa.Mild Go.Proofs.Ytloljhopccpeeaa.B1 Go.Proofs.Ytloljhopccpeeaa.B1z Go.Proofs.YtloljhopccpeeaaW.PrintWords Go.Proofs.YtloljhopccpeeaaW.PrintLast Go.Proofs.YtloljhopccpeeaaW.PrintMore
set_option linter.unusedVariables false
set_option linter.unusedSimpArgs false
attribute [local go_sem] max2_int min2_int max_two min_two mild mildAt
theorem wrap64_eq {n : Int} (h : -9223372036854775808 ≤ n) (h1 : n ≤ 9223372036854775807) : wrap64 n = n := by unfold wrap64; omega
theorem u64_wrap (n : Int) : IntKind.u64.wrap n = n % 18446744073709551616 := by
  have h : IntKind.u64.wrap n = n.emod 18446744073709551616 := by simp [IntKind.wrap]; rfl
  exact h
theorem i64_wrap64 (n : Int) : IntKind.i64.wrap n = wrap64 n := by
  simp [IntKind.wrap, IntKind.signed, IntKind.bits, wrap64]
  split <;> omega
def nearV (n l m : Int) : Int := l + (n % 18446744073709551616) % m
theorem near_range (n l m : Int) (hm : 1 ≤ m) : l ≤ nearV n l m ∧ nearV n l m < l + m := by
  unfold nearV
  have h1 := Int.emod_nonneg (n % 18446744073709551616) (by omega : m ≠ 0)
  have h2 := Int.emod_lt_of_pos (n % 18446744073709551616) (by omega : 0 < m)
  omega
theorem ret_int {k : IntKind} {a b : Int} (h : a = b) : Ending.returned (.int k a) = .returned (.int k b) := by rw [h]
theorem near_q (n l m : Int) (hm : 1 ≤ m) (hm1 : m ≤ 1000) (hl : 0 ≤ l) (hl1 : l ≤ 10) (w : World) : Calls Try.prog 28 #[.int .i64 n, .int .i64 l, .int .i64 m] w fun e w' => e = .returned (.int .i64 (nearV n l m)) ∧ w' = w := by
  have hz : ¬ m = 0 := by omega
  have h : wrap64 (l + wrap64 ((IntKind.u64.wrap n).tmod m)) = nearV n l m := by
    rw [u64_wrap, Int.tmod_eq_emod_of_nonneg (Int.emod_nonneg _ (by decide))]
    have h1 := Int.emod_nonneg (n % 18446744073709551616) (by omega : m ≠ 0)
    have h2 := Int.emod_lt_of_pos (n % 18446744073709551616) (by omega : 0 < m)
    unfold nearV
    rw [wrap64_eq (n := n % 18446744073709551616 % m) (by omega) (by omega), wrap64_eq (by omega) (by omega)]
  have hu : IntKind.u64.wrap m = m := by rw [u64_wrap]; omega
  obtain ⟨z, hzz⟩ : ∃ z, nearV n l m = z := ⟨_, rfl⟩
  rw [hzz] at h ⊢
  have H := Aside0.mk h
  clear h hzz
  clear hm hm1 hl hl1
  go_enter Try.func28, Try.ntmps28
  go_wp2
  go_ret
  exact ⟨ret_int H.out, rfl⟩
theorem near_o (n l m : Int) (hm : 1 ≤ m) (hm1 : m ≤ 1000) (hl : 0 ≤ l) (hl1 : l ≤ 10) (w : World) : Calls Try.prog 28 #[.int .i64 n, .int .i64 l, .int .i64 m] w fun e w' => e = .returned (.int .i64 (nearV n l m)) ∧ Over w w' :=
  (near_q n l m hm hm1 hl hl1 w).mono fun e w' h => ⟨h.1, by rw [h.2]; exact Below.refl _ _⟩
theorem far12 {w : World} {g b : Nat} {t : TypeId} {cs : Array Value} (h : IsBlk w b cs t) (hne : b ≠ g) (e0 e1 e2 e3 e4 e5 e6 e7 e8 e9 e10 e11 : Value) : IsBlk ((((((((((((w.setCell ⟨g, 0, none⟩ e0).setCell ⟨g, 1, none⟩ e1).setCell ⟨g, 2, none⟩ e2).setCell ⟨g, 3, none⟩ e3).setCell ⟨g, 4, none⟩ e4).setCell ⟨g, 5, none⟩ e5).setCell ⟨g, 6, none⟩ e6).setCell ⟨g, 7, none⟩ e7).setCell ⟨g, 8, none⟩ e8).setCell ⟨g, 9, none⟩ e9).setCell ⟨g, 10, none⟩ e10).setCell ⟨g, 11, none⟩ e11) b cs t := by
  repeat (first | (with_reducible exact h) | refine IsBlk.far ?_ hne _)

/-- The steps up to a place, the last of them. -/
def Stp (k last x0 x1 x2 x3 : Int) : Prop :=
  (k = 0 ∧ last = 0 ∧ x0 = 0 ∧ x1 = 0 ∧ x2 = 0 ∧ x3 = 0) ∨ (k = 1 ∧ last = x0 ∧ 1 ≤ x0 ∧ x0 ≤ 100 ∧ x1 = 0 ∧ x2 = 0 ∧ x3 = 0) ∨ (k = 2 ∧ last = x1 ∧ 1 ≤ x0 ∧ x0 < x1 ∧ x1 ≤ 100 ∧ x2 = 0 ∧ x3 = 0) ∨
  (k = 3 ∧ last = x2 ∧ 1 ≤ x0 ∧ x0 < x1 ∧ x1 < x2 ∧ x2 ≤ 100 ∧ x3 = 0) ∨ (k = 4 ∧ last = x3 ∧ 1 ≤ x0 ∧ x0 < x1 ∧ x1 < x2 ∧ x2 < x3 ∧ x3 ≤ 100)
/-- What Good makes. -/
structure Made (v d s u st s0 s1 s2 s3 p q r : Int) : Prop where
  m_v : 1 ≤ v ∧ v ≤ 6
  m_d : 1 ≤ d ∧ d ≤ 5
  m_st : 0 ≤ st ∧ st ≤ 2
  m_s : 0 ≤ s ∧ s ≤ 6
  m_s2 : st = 2 → d ≤ s
  m_u : 0 ≤ u ∧ u ≤ d
  m_su : 0 < s ∨ 0 < u
  m_no : st ≠ 0 → s0 = 0 ∧ s1 = 0 ∧ s2 = 0 ∧ s3 = 0
  m_yes : st = 0 → ∃ k last, 1 ≤ k ∧ Stp k last s0 s1 s2 s3
  m_p : 1 ≤ p ∧ p ≤ 9
  m_q : 0 ≤ q ∧ q ≤ 3
  m_r : 1 ≤ r ∧ r ≤ 60

set_option maxRecDepth 100000 in
set_option maxHeartbeats 8000000 in
theorem good_q (v d s u st s0 s1 s2 s3 p q r : Int) (w : World) : Calls Try.prog 17 #[.agg #[.int .i64 v, .int .i64 d, .int .i64 s, .int .i64 u, .int .i64 st, .int .i64 s0, .int .i64 s1, .int .i64 s2, .int .i64 s3, .int .i64 p, .int .i64 q, .int .i64 r]] w fun e w' => ∃ y0 y1 y2 y3 y4 y5 y6 y7 y8 y9 y10 y11 : Int, e = .returned (.agg #[.int .i64 y0, .int .i64 y1, .int .i64 y2, .int .i64 y3, .int .i64 y4, .int .i64 y5, .int .i64 y6, .int .i64 y7, .int .i64 y8, .int .i64 y9, .int .i64 y10, .int .i64 y11]) ∧ Made y0 y1 y2 y3 y4 y5 y6 y7 y8 y9 y10 y11 ∧ Below w.heap.size w w' := by
  have HB := Aside0.mk (Below.refl w.heap.size w)
  go_enter Try.func17, Try.ntmps17
  go_upto_region 1 with fail
  have D : IsBlk ((w.alloc (.cells #[.int .i64 v, .int .i64 d, .int .i64 s, .int .i64 u, .int .i64 st, .int .i64 s0, .int .i64 s1, .int .i64 s2, .int .i64 s3, .int .i64 p, .int .i64 q, .int .i64 r] 24)).alloc (.cells #[.int .i64 0, .int .i64 0, .int .i64 0, .int .i64 0, .int .i64 0, .int .i64 0, .int .i64 0, .int .i64 0, .int .i64 0, .int .i64 0, .int .i64 0, .int .i64 0] 24)) w.heap.size #[.int .i64 v, .int .i64 d, .int .i64 s, .int .i64 u, .int .i64 st, .int .i64 s0, .int .i64 s1, .int .i64 s2, .int .i64 s3, .int .i64 p, .int .i64 q, .int .i64 r] 24 := IsBlk.alloc (IsBlk.new _ _ rfl) _
  have R : IsBlk ((w.alloc (.cells #[.int .i64 v, .int .i64 d, .int .i64 s, .int .i64 u, .int .i64 st, .int .i64 s0, .int .i64 s1, .int .i64 s2, .int .i64 s3, .int .i64 p, .int .i64 q, .int .i64 r] 24)).alloc (.cells #[.int .i64 0, .int .i64 0, .int .i64 0, .int .i64 0, .int .i64 0, .int .i64 0, .int .i64 0, .int .i64 0, .int .i64 0, .int .i64 0, .int .i64 0, .int .i64 0] 24)) (w.heap.size + 1) #[.int .i64 0, .int .i64 0, .int .i64 0, .int .i64 0, .int .i64 0, .int .i64 0, .int .i64 0, .int .i64 0, .int .i64 0, .int .i64 0, .int .i64 0, .int .i64 0] 24 := IsBlk.new _ _ (by simp)
  have D_0 := blk_cell D 0
  have D_1 := blk_cell D 1
  have D_2 := blk_cell D 2
  have D_3 := blk_cell D 3
  have D_4 := blk_cell D 4
  have D_5 := blk_cell D 5
  have D_6 := blk_cell D 6
  have D_7 := blk_cell D 7
  have D_8 := blk_cell D 8
  have D_9 := blk_cell D 9
  have D_10 := blk_cell D 10
  have D_11 := blk_cell D 11
  simp only [List.getElem?_toArray, List.getElem?_cons_zero, List.getElem?_cons_succ] at D_0 D_1 D_2 D_3 D_4 D_5 D_6 D_7 D_8 D_9 D_10 D_11
  have D_l := blk_lt D
  have HD := Aside0.mk D
  clear D
  have HR := Aside0.mk R
  clear R
  have r_0 := cell_regrown D_0
  have r_1 := cell_regrown D_1
  have r_2 := cell_regrown D_2
  have r_3 := cell_regrown D_3
  have r_4 := cell_regrown D_4
  have r_5 := cell_regrown D_5
  have r_6 := cell_regrown D_6
  have r_7 := cell_regrown D_7
  have r_8 := cell_regrown D_8
  have r_9 := cell_regrown D_9
  have r_10 := cell_regrown D_10
  have r_11 := cell_regrown D_11
  clear D_0 D_1 D_2 D_3 D_4 D_5 D_6 D_7 D_8 D_9 D_10 D_11 D_l
  go_cut [3] (fun v3 wc => ∃ g : Nat, v3 = .pointer (some ⟨g, 0, none⟩) ∧ w.heap.size + 1 < g ∧ Aside0 (IsBlk wc g #[.int .i64 (nearV v 1 6), .int .i64 (nearV d 1 5), .int .i64 0, .int .i64 0, .int .i64 (nearV st 0 3), .int .i64 0, .int .i64 0, .int .i64 0, .int .i64 0, .int .i64 0, .int .i64 0, .int .i64 0] 24) ∧ Aside0 (IsBlk wc w.heap.size #[.int .i64 v, .int .i64 d, .int .i64 s, .int .i64 u, .int .i64 st, .int .i64 s0, .int .i64 s1, .int .i64 s2, .int .i64 s3, .int .i64 p, .int .i64 q, .int .i64 r] 24) ∧ Aside0 (IsBlk wc (w.heap.size + 1) #[.int .i64 0, .int .i64 0, .int .i64 0, .int .i64 0, .int .i64 0, .int .i64 0, .int .i64 0, .int .i64 0, .int .i64 0, .int .i64 0, .int .i64 0, .int .i64 0] 24) ∧ Aside0 (Below w.heap.size w wc))
  case first =>
    refine wp_region_mild 10 (by kernel_rfl) (by kernel_rfl) _ _ (.cells #[.int .i64 0, .int .i64 0, .int .i64 0, .int .i64 0, .int .i64 0, .int .i64 0, .int .i64 0, .int .i64 0, .int .i64 0, .int .i64 0, .int .i64 0, .int .i64 0] 24) rfl rfl rfl ?hA ?_
    case hA =>
      intro K a w hK
      refine wpOp_step rfl (fun K' hK' => ?_)
      go_simp
      exact hK' _ _ hK
    intro Lq HLq
    simp only [List.take_succ_cons, List.take_zero]
    repeat (
      refine WM_step ?_
      intro K hK
      go_simp
      first
        | (refine hK _ ?_; clear hK K)
        | (apply Exists.intro
           refine ⟨fun dq os => ?_, hK _ ?_⟩
           (go_at_call 28; with_reducible exact near_o _ _ _ (by decide) (by decide) (by decide) (by decide) _)
           clear hK K))
    refine WM_nil (HLq.out _ ?_)
    intro g w' hb hg hob
    have E : IsBlk w' g #[.int .i64 0, .int .i64 0, .int .i64 0, .int .i64 0, .int .i64 0, .int .i64 0, .int .i64 0, .int .i64 0, .int .i64 0, .int .i64 0, .int .i64 0, .int .i64 0] 24 := hob
    have E_0 := blk_cell E 0
    have E_1 := blk_cell E 1
    have E_2 := blk_cell E 2
    have E_3 := blk_cell E 3
    have E_4 := blk_cell E 4
    have E_5 := blk_cell E 5
    have E_6 := blk_cell E 6
    have E_7 := blk_cell E 7
    have E_8 := blk_cell E 8
    have E_9 := blk_cell E 9
    have E_10 := blk_cell E 10
    have E_11 := blk_cell E 11
    simp only [List.getElem?_toArray, List.getElem?_cons_zero, List.getElem?_cons_succ] at E_0 E_1 E_2 E_3 E_4 E_5 E_6 E_7 E_8 E_9 E_10 E_11
    have E_z0 := blk_frozen E 0
    have E_z1 := blk_frozen E 1
    have E_z2 := blk_frozen E 2
    have E_z3 := blk_frozen E 3
    have E_z4 := blk_frozen E 4
    have E_z5 := blk_frozen E 5
    have E_z6 := blk_frozen E 6
    have E_z7 := blk_frozen E 7
    have E_z8 := blk_frozen E 8
    have E_z9 := blk_frozen E 9
    have E_z10 := blk_frozen E 10
    have E_z11 := blk_frozen E 11
    have E_l := blk_lt E
    have HE := Aside0.mk E
    clear E
    have hB := Aside0.mk (below_step (by repeat (first | (with_reducible first | exact HB.out | apply below_alloc | apply pw_below_drewN | apply below_drew1) | refine below_set ?_ (by omega))) hb)
    have HD2 := Aside0.mk (IsBlk.below HD.out hb)
    have HR2 := Aside0.mk (IsBlk.below HR.out hb)
    have hg1 : w.heap.size + 1 < g := Nat.lt_of_lt_of_le (by simp) hg
    clear hob hb hg
    go_wp2_with fail
    go_meet
    refine ⟨g, rfl, hg1, ⟨blk12 HE.out _ _ _ _ _ _ _ _ _ _ _ _⟩, ⟨far12 HD2.out (by omega) _ _ _ _ _ _ _ _ _ _ _ _⟩, ⟨far12 HR2.out (by omega) _ _ _ _ _ _ _ _ _ _ _ _⟩, ⟨?_⟩⟩
    repeat (first | (with_reducible exact hB.out) | refine below_set ?_ (by omega))
  case rest =>
    clear r_0 r_1 r_2 r_3 r_4 r_5 r_6 r_7 r_8 r_9 r_10 r_11 HD HR HB
    obtain ⟨g, rfl, hg, HG, HD0, HR, HB⟩ := hcut
    have G := HG.out
    have D := HD0.out
    clear HG HD0
    have hv := near_range v 1 6 (by decide)
    have hd := near_range d 1 5 (by decide)
    have hst := near_range st 0 3 (by decide)
    generalize nearV v 1 6 = nv at *
    generalize nearV d 1 5 = nd at *
    generalize nearV st 0 3 = nst at *
    have G_0 := blk_cell G 0
    have G_1 := blk_cell G 1
    have G_2 := blk_cell G 2
    have G_3 := blk_cell G 3
    have G_4 := blk_cell G 4
    have G_5 := blk_cell G 5
    have G_6 := blk_cell G 6
    have G_7 := blk_cell G 7
    have G_8 := blk_cell G 8
    have G_9 := blk_cell G 9
    have G_10 := blk_cell G 10
    have G_11 := blk_cell G 11
    simp only [List.getElem?_toArray, List.getElem?_cons_zero, List.getElem?_cons_succ] at G_0 G_1 G_2 G_3 G_4 G_5 G_6 G_7 G_8 G_9 G_10 G_11
    have G_z0 := blk_frozen G 0
    have G_z1 := blk_frozen G 1
    have G_z2 := blk_frozen G 2
    have G_z3 := blk_frozen G 3
    have G_z4 := blk_frozen G 4
    have G_z5 := blk_frozen G 5
    have G_z6 := blk_frozen G 6
    have G_z7 := blk_frozen G 7
    have G_z8 := blk_frozen G 8
    have G_z9 := blk_frozen G 9
    have G_z10 := blk_frozen G 10
    have G_z11 := blk_frozen G 11
    have G_l := blk_lt G
    have HG := Aside0.mk G
    clear G
    have D_0 := blk_cell D 0
    have D_1 := blk_cell D 1
    have D_2 := blk_cell D 2
    have D_3 := blk_cell D 3
    have D_4 := blk_cell D 4
    have D_5 := blk_cell D 5
    have D_6 := blk_cell D 6
    have D_7 := blk_cell D 7
    have D_8 := blk_cell D 8
    have D_9 := blk_cell D 9
    have D_10 := blk_cell D 10
    have D_11 := blk_cell D 11
    simp only [List.getElem?_toArray, List.getElem?_cons_zero, List.getElem?_cons_succ] at D_0 D_1 D_2 D_3 D_4 D_5 D_6 D_7 D_8 D_9 D_10 D_11
    have D_l := blk_lt D
    have HD := Aside0.mk D
    clear D
    have hgD : w.heap.size ≠ g := by omega
    have hgR : w.heap.size + 1 ≠ g := by omega
    have hgB : w.heap.size ≤ g := by omega
    go_upto_if 30 with (go_at_call 28; (with_reducible refine (near_q _ _ _ (by omega) (by omega) (by omega) (by omega) _).mono ?_); rintro e w' ⟨rfl, rfl⟩)
    have hs4 := near_range s 0 4 (by decide)
    have hu4 := near_range u 0 (nd + 1) (by omega)
    have G5 : Aside0 (IsBlk ((w'.setCell ⟨g, 2, none⟩ (.int .i64 (nearV s 0 4))).setCell ⟨g, 3, none⟩ (.int .i64 (nearV u 0 (nd + 1)))) g #[.int .i64 nv, .int .i64 nd, .int .i64 (nearV s 0 4), .int .i64 (nearV u 0 (nd + 1)), .int .i64 nst, .int .i64 0, .int .i64 0, .int .i64 0, .int .i64 0, .int .i64 0, .int .i64 0, .int .i64 0] 24) := ⟨(by unfold IsBlk; (with_reducible repeat (first | refine blk_drewN ?_ _ | refine blk_drew ?_ | refine blk_alloc ?_ _)); refine blk_put (cs := #[.int .i64 nv, .int .i64 nd, .int .i64 (nearV s 0 4), .int .i64 0, .int .i64 nst, .int .i64 0, .int .i64 0, .int .i64 0, .int .i64 0, .int .i64 0, .int .i64 0, .int .i64 0]) ?_ 3 _ rfl; (with_reducible repeat (first | refine blk_drewN ?_ _ | refine blk_drew ?_ | refine blk_alloc ?_ _)); refine blk_put (cs := #[.int .i64 nv, .int .i64 nd, .int .i64 0, .int .i64 0, .int .i64 nst, .int .i64 0, .int .i64 0, .int .i64 0, .int .i64 0, .int .i64 0, .int .i64 0, .int .i64 0]) ?_ 2 _ rfl; (with_reducible repeat (first | refine blk_drewN ?_ _ | refine blk_drew ?_ | refine blk_alloc ?_ _)); exact HG.out)⟩
    have D5 : Aside0 (IsBlk ((w'.setCell ⟨g, 2, none⟩ (.int .i64 (nearV s 0 4))).setCell ⟨g, 3, none⟩ (.int .i64 (nearV u 0 (nd + 1)))) w.heap.size #[.int .i64 v, .int .i64 d, .int .i64 s, .int .i64 u, .int .i64 st, .int .i64 s0, .int .i64 s1, .int .i64 s2, .int .i64 s3, .int .i64 p, .int .i64 q, .int .i64 r] 24) := ⟨by repeat (first | (with_reducible first | exact HD.out | apply IsBlk.alloc | apply IsBlk.drewN | apply IsBlk.drew) | refine IsBlk.far ?_ hgD _)⟩
    have R5 : Aside0 (IsBlk ((w'.setCell ⟨g, 2, none⟩ (.int .i64 (nearV s 0 4))).setCell ⟨g, 3, none⟩ (.int .i64 (nearV u 0 (nd + 1)))) (w.heap.size + 1) #[.int .i64 0, .int .i64 0, .int .i64 0, .int .i64 0, .int .i64 0, .int .i64 0, .int .i64 0, .int .i64 0, .int .i64 0, .int .i64 0, .int .i64 0, .int .i64 0] 24) := ⟨by repeat (first | (with_reducible first | exact HR.out | apply IsBlk.alloc | apply IsBlk.drewN | apply IsBlk.drew) | refine IsBlk.far ?_ hgR _)⟩
    have B5 : Aside0 (Below w.heap.size w ((w'.setCell ⟨g, 2, none⟩ (.int .i64 (nearV s 0 4))).setCell ⟨g, 3, none⟩ (.int .i64 (nearV u 0 (nd + 1))))) := ⟨by repeat (first | (with_reducible first | exact HB.out | apply below_alloc | apply pw_below_drewN | apply below_drew1) | refine below_set ?_ hgB)⟩
    clear G_0 G_1 G_2 G_3 G_4 G_5 G_6 G_7 G_8 G_9 G_10 G_11 G_z0 G_z1 G_z2 G_z3 G_z4 G_z5 G_z6 G_z7 G_z8 G_z9 G_z10 G_z11 G_l HG
    clear D_0 D_1 D_2 D_3 D_4 D_5 D_6 D_7 D_8 D_9 D_10 D_11 D_l HD
    clear HR HB
    generalize nearV s 0 4 = ns at *
    generalize nearV u 0 (nd + 1) = nu0 at *
    generalize ((w'.setCell ⟨g, 2, none⟩ (.int .i64 ns)).setCell ⟨g, 3, none⟩ (.int .i64 nu0)) = w9 at *
    have G := G5.out
    have D := D5.out
    have HR := R5
    have HB := B5
    clear G5 D5 R5 B5
    have G_0 := blk_cell G 0
    have G_1 := blk_cell G 1
    have G_2 := blk_cell G 2
    have G_3 := blk_cell G 3
    have G_4 := blk_cell G 4
    have G_5 := blk_cell G 5
    have G_6 := blk_cell G 6
    have G_7 := blk_cell G 7
    have G_8 := blk_cell G 8
    have G_9 := blk_cell G 9
    have G_10 := blk_cell G 10
    have G_11 := blk_cell G 11
    simp only [List.getElem?_toArray, List.getElem?_cons_zero, List.getElem?_cons_succ] at G_0 G_1 G_2 G_3 G_4 G_5 G_6 G_7 G_8 G_9 G_10 G_11
    have G_z0 := blk_frozen G 0
    have G_z1 := blk_frozen G 1
    have G_z2 := blk_frozen G 2
    have G_z3 := blk_frozen G 3
    have G_z4 := blk_frozen G 4
    have G_z5 := blk_frozen G 5
    have G_z6 := blk_frozen G 6
    have G_z7 := blk_frozen G 7
    have G_z8 := blk_frozen G 8
    have G_z9 := blk_frozen G 9
    have G_z10 := blk_frozen G 10
    have G_z11 := blk_frozen G 11
    have G_l := blk_lt G
    have HG := Aside0.mk G
    clear G
    have D_0 := blk_cell D 0
    have D_1 := blk_cell D 1
    have D_2 := blk_cell D 2
    have D_3 := blk_cell D 3
    have D_4 := blk_cell D 4
    have D_5 := blk_cell D 5
    have D_6 := blk_cell D 6
    have D_7 := blk_cell D 7
    have D_8 := blk_cell D 8
    have D_9 := blk_cell D 9
    have D_10 := blk_cell D 10
    have D_11 := blk_cell D 11
    simp only [List.getElem?_toArray, List.getElem?_cons_zero, List.getElem?_cons_succ] at D_0 D_1 D_2 D_3 D_4 D_5 D_6 D_7 D_8 D_9 D_10 D_11
    have D_l := blk_lt D
    have HD := Aside0.mk D
    clear D
    go_cut [] (fun wd => ∃ s' nu : Int, Aside0 (IsBlk wd g #[.int .i64 nv, .int .i64 nd, .int .i64 s', .int .i64 nu, .int .i64 nst, .int .i64 0, .int .i64 0, .int .i64 0, .int .i64 0, .int .i64 0, .int .i64 0, .int .i64 0] 24) ∧ 0 ≤ s' ∧ s' ≤ 6 ∧ 0 ≤ nu ∧ nu ≤ nd ∧ Aside0 (nst = 2 → nd ≤ s') ∧ Aside0 (IsBlk wd w.heap.size #[.int .i64 v, .int .i64 d, .int .i64 s, .int .i64 u, .int .i64 st, .int .i64 s0, .int .i64 s1, .int .i64 s2, .int .i64 s3, .int .i64 p, .int .i64 q, .int .i64 r] 24) ∧ Aside0 (IsBlk wd (w.heap.size + 1) #[.int .i64 0, .int .i64 0, .int .i64 0, .int .i64 0, .int .i64 0, .int .i64 0, .int .i64 0, .int .i64 0, .int .i64 0, .int .i64 0, .int .i64 0, .int .i64 0] 24) ∧ Aside0 (Below w.heap.size w wd))
    case first =>
      by_cases h2 : nst = 2
      · subst h2
        have h5 := near_range s 0 2 (by decide)
        have hw : IntKind.i64.wrap (nd + nearV s 0 2) = nd + nearV s 0 2 := by rw [i64_wrap64]; exact wrap64_eq (by omega) (by omega)
        have hw2 : wrap64 (nd + nearV s 0 2) = nd + nearV s 0 2 := wrap64_eq (by omega) (by omega)
        go_wp2_with fail
        refine wp_region_still_tail 7 (by kernel_rfl) (by kernel_rfl) ?_
        simp only [List.take_succ_cons, List.take_zero, List.drop_succ_cons, List.drop_zero]
        repeat still_step
        still_call (near_q s 0 2 (by decide) (by decide) (by decide) (by decide) _)
        repeat still_step
        refine wpStill_nil ?_
        go_wp2_with fail
        go_meet
        exact ⟨nd + nearV s 0 2, nu0, ⟨(by unfold IsBlk; (with_reducible repeat (first | refine blk_drewN ?_ _ | refine blk_drew ?_ | refine blk_alloc ?_ _)); refine blk_put (cs := #[.int .i64 nv, .int .i64 nd, .int .i64 ns, .int .i64 nu0, .int .i64 2, .int .i64 0, .int .i64 0, .int .i64 0, .int .i64 0, .int .i64 0, .int .i64 0, .int .i64 0]) ?_ 2 _ rfl; (with_reducible repeat (first | refine blk_drewN ?_ _ | refine blk_drew ?_ | refine blk_alloc ?_ _)); exact HG.out)⟩, by omega, by omega, by omega, by omega, ⟨fun _ => by omega⟩, ⟨by repeat (first | (with_reducible first | exact HD.out | apply IsBlk.alloc | apply IsBlk.drewN | apply IsBlk.drew) | refine IsBlk.far ?_ hgD _)⟩, ⟨by repeat (first | (with_reducible first | exact HR.out | apply IsBlk.alloc | apply IsBlk.drewN | apply IsBlk.drew) | refine IsBlk.far ?_ hgR _)⟩, ⟨by repeat (first | (with_reducible first | exact HB.out | apply below_alloc | apply pw_below_drewN | apply below_drew1) | refine below_set ?_ hgB)⟩⟩
      · have t2 : (nst == 2) = false := by simpa using h2
        have HH := Aside0.mk h2
        clear h2
        go_wp2_with fail
        go_meet
        exact ⟨ns, nu0, ⟨HG.out⟩, by omega, by omega, by omega, by omega, ⟨fun h => absurd h HH.out⟩, ⟨by repeat (first | (with_reducible first | exact HD.out | apply IsBlk.alloc | apply IsBlk.drewN | apply IsBlk.drew) | refine IsBlk.far ?_ hgD _)⟩, ⟨by repeat (first | (with_reducible first | exact HR.out | apply IsBlk.alloc | apply IsBlk.drewN | apply IsBlk.drew) | refine IsBlk.far ?_ hgR _)⟩, ⟨by repeat (first | (with_reducible first | exact HB.out | apply below_alloc | apply pw_below_drewN | apply below_drew1) | refine below_set ?_ hgB)⟩⟩
    case rest =>
      clear G_0 G_1 G_2 G_3 G_4 G_5 G_6 G_7 G_8 G_9 G_10 G_11 G_z0 G_z1 G_z2 G_z3 G_z4 G_z5 G_z6 G_z7 G_z8 G_z9 G_z10 G_z11 G_l HG
      clear D_0 D_1 D_2 D_3 D_4 D_5 D_6 D_7 D_8 D_9 D_10 D_11 D_l HD
      clear HR HB
      clear hs4 hu4
      obtain ⟨s', nu, HG0, hs0, hs6, hu0, hud, HS2, HD0, HR, HB⟩ := hcut
      have G := HG0.out
      have D := HD0.out
      clear HG0 HD0
      have G_0 := blk_cell G 0
      have G_1 := blk_cell G 1
      have G_2 := blk_cell G 2
      have G_3 := blk_cell G 3
      have G_4 := blk_cell G 4
      have G_5 := blk_cell G 5
      have G_6 := blk_cell G 6
      have G_7 := blk_cell G 7
      have G_8 := blk_cell G 8
      have G_9 := blk_cell G 9
      have G_10 := blk_cell G 10
      have G_11 := blk_cell G 11
      simp only [List.getElem?_toArray, List.getElem?_cons_zero, List.getElem?_cons_succ] at G_0 G_1 G_2 G_3 G_4 G_5 G_6 G_7 G_8 G_9 G_10 G_11
      have G_z0 := blk_frozen G 0
      have G_z1 := blk_frozen G 1
      have G_z2 := blk_frozen G 2
      have G_z3 := blk_frozen G 3
      have G_z4 := blk_frozen G 4
      have G_z5 := blk_frozen G 5
      have G_z6 := blk_frozen G 6
      have G_z7 := blk_frozen G 7
      have G_z8 := blk_frozen G 8
      have G_z9 := blk_frozen G 9
      have G_z10 := blk_frozen G 10
      have G_z11 := blk_frozen G 11
      have G_l := blk_lt G
      have HG := Aside0.mk G
      clear G
      have D_0 := blk_cell D 0
      have D_1 := blk_cell D 1
      have D_2 := blk_cell D 2
      have D_3 := blk_cell D 3
      have D_4 := blk_cell D 4
      have D_5 := blk_cell D 5
      have D_6 := blk_cell D 6
      have D_7 := blk_cell D 7
      have D_8 := blk_cell D 8
      have D_9 := blk_cell D 9
      have D_10 := blk_cell D 10
      have D_11 := blk_cell D 11
      simp only [List.getElem?_toArray, List.getElem?_cons_zero, List.getElem?_cons_succ] at D_0 D_1 D_2 D_3 D_4 D_5 D_6 D_7 D_8 D_9 D_10 D_11
      have D_l := blk_lt D
      have HD := Aside0.mk D
      clear D
      go_upto_region 6 with fail
      go_cut [45] (fun v45 wd => v45 = .bool ((s' == 0) && (nu == 0)) ∧ Aside0 (IsBlk wd g #[.int .i64 nv, .int .i64 nd, .int .i64 s', .int .i64 nu, .int .i64 nst, .int .i64 0, .int .i64 0, .int .i64 0, .int .i64 0, .int .i64 0, .int .i64 0, .int .i64 0] 24) ∧ Aside0 (IsBlk wd w.heap.size #[.int .i64 v, .int .i64 d, .int .i64 s, .int .i64 u, .int .i64 st, .int .i64 s0, .int .i64 s1, .int .i64 s2, .int .i64 s3, .int .i64 p, .int .i64 q, .int .i64 r] 24) ∧ Aside0 (IsBlk wd (w.heap.size + 1) #[.int .i64 0, .int .i64 0, .int .i64 0, .int .i64 0, .int .i64 0, .int .i64 0, .int .i64 0, .int .i64 0, .int .i64 0, .int .i64 0, .int .i64 0, .int .i64 0] 24) ∧ Aside0 (Below w.heap.size w wd))
      case first =>
        cases hz1 : (s' == 0) <;> cases hz2 : (nu == 0)
        all_goals
          go_wp2_with fail
          go_meet
          exact ⟨congrArg Value.bool (by rw [hz1, hz2]; rfl), ⟨HG.out⟩, ⟨by repeat (first | (with_reducible first | exact HD.out | apply IsBlk.alloc | apply IsBlk.drewN | apply IsBlk.drew) | refine IsBlk.far ?_ hgD _)⟩, ⟨by repeat (first | (with_reducible first | exact HR.out | apply IsBlk.alloc | apply IsBlk.drewN | apply IsBlk.drew) | refine IsBlk.far ?_ hgR _)⟩, ⟨by repeat (first | (with_reducible first | exact HB.out | apply below_alloc | apply pw_below_drewN | apply below_drew1) | refine below_set ?_ hgB)⟩⟩
      case rest =>
        clear G_0 G_1 G_2 G_3 G_4 G_5 G_6 G_7 G_8 G_9 G_10 G_11 G_z0 G_z1 G_z2 G_z3 G_z4 G_z5 G_z6 G_z7 G_z8 G_z9 G_z10 G_z11 G_l HG
        clear D_0 D_1 D_2 D_3 D_4 D_5 D_6 D_7 D_8 D_9 D_10 D_11 D_l HD
        clear HR HB
        obtain ⟨rfl, HG0, HD0, HR, HB⟩ := hcut
        have G := HG0.out
        have D := HD0.out
        clear HG0 HD0
        have G_0 := blk_cell G 0
        have G_1 := blk_cell G 1
        have G_2 := blk_cell G 2
        have G_3 := blk_cell G 3
        have G_4 := blk_cell G 4
        have G_5 := blk_cell G 5
        have G_6 := blk_cell G 6
        have G_7 := blk_cell G 7
        have G_8 := blk_cell G 8
        have G_9 := blk_cell G 9
        have G_10 := blk_cell G 10
        have G_11 := blk_cell G 11
        simp only [List.getElem?_toArray, List.getElem?_cons_zero, List.getElem?_cons_succ] at G_0 G_1 G_2 G_3 G_4 G_5 G_6 G_7 G_8 G_9 G_10 G_11
        have G_z0 := blk_frozen G 0
        have G_z1 := blk_frozen G 1
        have G_z2 := blk_frozen G 2
        have G_z3 := blk_frozen G 3
        have G_z4 := blk_frozen G 4
        have G_z5 := blk_frozen G 5
        have G_z6 := blk_frozen G 6
        have G_z7 := blk_frozen G 7
        have G_z8 := blk_frozen G 8
        have G_z9 := blk_frozen G 9
        have G_z10 := blk_frozen G 10
        have G_z11 := blk_frozen G 11
        have G_l := blk_lt G
        have HG := Aside0.mk G
        clear G
        have D_0 := blk_cell D 0
        have D_1 := blk_cell D 1
        have D_2 := blk_cell D 2
        have D_3 := blk_cell D 3
        have D_4 := blk_cell D 4
        have D_5 := blk_cell D 5
        have D_6 := blk_cell D 6
        have D_7 := blk_cell D 7
        have D_8 := blk_cell D 8
        have D_9 := blk_cell D 9
        have D_10 := blk_cell D 10
        have D_11 := blk_cell D 11
        simp only [List.getElem?_toArray, List.getElem?_cons_zero, List.getElem?_cons_succ] at D_0 D_1 D_2 D_3 D_4 D_5 D_6 D_7 D_8 D_9 D_10 D_11
        have D_l := blk_lt D
        have HD := Aside0.mk D
        clear D
        go_upto_if 45 with fail
        go_cut [] (fun wd => ∃ u' : Int, Aside0 (IsBlk wd g #[.int .i64 nv, .int .i64 nd, .int .i64 s', .int .i64 u', .int .i64 nst, .int .i64 0, .int .i64 0, .int .i64 0, .int .i64 0, .int .i64 0, .int .i64 0, .int .i64 0] 24) ∧ 0 ≤ u' ∧ u' ≤ nd ∧ Aside0 (0 < s' ∨ 0 < u') ∧ Aside0 (IsBlk wd w.heap.size #[.int .i64 v, .int .i64 d, .int .i64 s, .int .i64 u, .int .i64 st, .int .i64 s0, .int .i64 s1, .int .i64 s2, .int .i64 s3, .int .i64 p, .int .i64 q, .int .i64 r] 24) ∧ Aside0 (IsBlk wd (w.heap.size + 1) #[.int .i64 0, .int .i64 0, .int .i64 0, .int .i64 0, .int .i64 0, .int .i64 0, .int .i64 0, .int .i64 0, .int .i64 0, .int .i64 0, .int .i64 0, .int .i64 0] 24) ∧ Aside0 (Below w.heap.size w wd))
        case first =>
          cases hzb : ((s' == 0) && (nu == 0)) with
          | true =>
            go_wp2_with fail
            go_meet
            exact ⟨1, ⟨(by unfold IsBlk; (with_reducible repeat (first | refine blk_drewN ?_ _ | refine blk_drew ?_ | refine blk_alloc ?_ _)); refine blk_put (cs := #[.int .i64 nv, .int .i64 nd, .int .i64 s', .int .i64 nu, .int .i64 nst, .int .i64 0, .int .i64 0, .int .i64 0, .int .i64 0, .int .i64 0, .int .i64 0, .int .i64 0]) ?_ 3 _ rfl; (with_reducible repeat (first | refine blk_drewN ?_ _ | refine blk_drew ?_ | refine blk_alloc ?_ _)); exact HG.out)⟩, by omega, by omega, ⟨by omega⟩, ⟨by repeat (first | (with_reducible first | exact HD.out | apply IsBlk.alloc | apply IsBlk.drewN | apply IsBlk.drew) | refine IsBlk.far ?_ hgD _)⟩, ⟨by repeat (first | (with_reducible first | exact HR.out | apply IsBlk.alloc | apply IsBlk.drewN | apply IsBlk.drew) | refine IsBlk.far ?_ hgR _)⟩, ⟨by repeat (first | (with_reducible first | exact HB.out | apply below_alloc | apply pw_below_drewN | apply below_drew1) | refine below_set ?_ hgB)⟩⟩
          | false =>
            have HZ : Aside0 (0 < s' ∨ 0 < nu) := ⟨by simp at hzb; omega⟩
            go_wp2_with fail
            go_meet
            exact ⟨nu, ⟨HG.out⟩, by omega, by omega, HZ, ⟨by repeat (first | (with_reducible first | exact HD.out | apply IsBlk.alloc | apply IsBlk.drewN | apply IsBlk.drew) | refine IsBlk.far ?_ hgD _)⟩, ⟨by repeat (first | (with_reducible first | exact HR.out | apply IsBlk.alloc | apply IsBlk.drewN | apply IsBlk.drew) | refine IsBlk.far ?_ hgR _)⟩, ⟨by repeat (first | (with_reducible first | exact HB.out | apply below_alloc | apply pw_below_drewN | apply below_drew1) | refine below_set ?_ hgB)⟩⟩
        case rest =>
          clear G_0 G_1 G_2 G_3 G_4 G_5 G_6 G_7 G_8 G_9 G_10 G_11 G_z0 G_z1 G_z2 G_z3 G_z4 G_z5 G_z6 G_z7 G_z8 G_z9 G_z10 G_z11 G_l HG
          clear D_0 D_1 D_2 D_3 D_4 D_5 D_6 D_7 D_8 D_9 D_10 D_11 D_l HD
          clear HR HB
          clear hu0 hud
          obtain ⟨u', HG0, hu0, hud, HSU, HD0, HR, HB⟩ := hcut
          have G := HG0.out
          have D := HD0.out
          clear HG0 HD0
          have G_0 := blk_cell G 0
          have G_1 := blk_cell G 1
          have G_2 := blk_cell G 2
          have G_3 := blk_cell G 3
          have G_4 := blk_cell G 4
          have G_5 := blk_cell G 5
          have G_6 := blk_cell G 6
          have G_7 := blk_cell G 7
          have G_8 := blk_cell G 8
          have G_9 := blk_cell G 9
          have G_10 := blk_cell G 10
          have G_11 := blk_cell G 11
          simp only [List.getElem?_toArray, List.getElem?_cons_zero, List.getElem?_cons_succ] at G_0 G_1 G_2 G_3 G_4 G_5 G_6 G_7 G_8 G_9 G_10 G_11
          have G_z0 := blk_frozen G 0
          have G_z1 := blk_frozen G 1
          have G_z2 := blk_frozen G 2
          have G_z3 := blk_frozen G 3
          have G_z4 := blk_frozen G 4
          have G_z5 := blk_frozen G 5
          have G_z6 := blk_frozen G 6
          have G_z7 := blk_frozen G 7
          have G_z8 := blk_frozen G 8
          have G_z9 := blk_frozen G 9
          have G_z10 := blk_frozen G 10
          have G_z11 := blk_frozen G 11
          have G_l := blk_lt G
          have HG := Aside0.mk G
          clear G
          have D_0 := blk_cell D 0
          have D_1 := blk_cell D 1
          have D_2 := blk_cell D 2
          have D_3 := blk_cell D 3
          have D_4 := blk_cell D 4
          have D_5 := blk_cell D 5
          have D_6 := blk_cell D 6
          have D_7 := blk_cell D 7
          have D_8 := blk_cell D 8
          have D_9 := blk_cell D 9
          have D_10 := blk_cell D 10
          have D_11 := blk_cell D 11
          simp only [List.getElem?_toArray, List.getElem?_cons_zero, List.getElem?_cons_succ] at D_0 D_1 D_2 D_3 D_4 D_5 D_6 D_7 D_8 D_9 D_10 D_11
          have D_l := blk_lt D
          have HD := Aside0.mk D
          clear D
          go_upto_if 49 with fail
          go_cut [] (fun wd => ∃ x0 x1 x2 x3 : Int, Aside0 (IsBlk wd g #[.int .i64 nv, .int .i64 nd, .int .i64 s', .int .i64 u', .int .i64 nst, .int .i64 x0, .int .i64 x1, .int .i64 x2, .int .i64 x3, .int .i64 0, .int .i64 0, .int .i64 0] 24) ∧ Aside0 (nst ≠ 0 → x0 = 0 ∧ x1 = 0 ∧ x2 = 0 ∧ x3 = 0) ∧ Aside0 (nst = 0 → ∃ k last, 1 ≤ k ∧ Stp k last x0 x1 x2 x3) ∧ Aside0 (IsBlk wd w.heap.size #[.int .i64 v, .int .i64 d, .int .i64 s, .int .i64 u, .int .i64 st, .int .i64 s0, .int .i64 s1, .int .i64 s2, .int .i64 s3, .int .i64 p, .int .i64 q, .int .i64 r] 24) ∧ Aside0 (IsBlk wd (w.heap.size + 1) #[.int .i64 0, .int .i64 0, .int .i64 0, .int .i64 0, .int .i64 0, .int .i64 0, .int .i64 0, .int .i64 0, .int .i64 0, .int .i64 0, .int .i64 0, .int .i64 0] 24) ∧ Aside0 (Below w.heap.size w wd))
          case first =>
            by_cases h0 : nst = 0
            · subst h0
              go_wp2_with fail
              go_loopw [4, 5] (fun v4 v5 wr => ∃ (k last x0 x1 x2 x3 : Int), v5 = .int .i64 k ∧ v4 = .int .i64 last ∧ 0 ≤ k ∧ k ≤ 4 ∧ Aside0 (Stp k last x0 x1 x2 x3) ∧ Aside0 (IsBlk wr g #[.int .i64 nv, .int .i64 nd, .int .i64 s', .int .i64 u', .int .i64 0, .int .i64 x0, .int .i64 x1, .int .i64 x2, .int .i64 x3, .int .i64 0, .int .i64 0, .int .i64 0] 24) ∧ Aside0 (IsBlk wr w.heap.size #[.int .i64 v, .int .i64 d, .int .i64 s, .int .i64 u, .int .i64 st, .int .i64 s0, .int .i64 s1, .int .i64 s2, .int .i64 s3, .int .i64 p, .int .i64 q, .int .i64 r] 24) ∧ Aside0 (IsBlk wr (w.heap.size + 1) #[.int .i64 0, .int .i64 0, .int .i64 0, .int .i64 0, .int .i64 0, .int .i64 0, .int .i64 0, .int .i64 0, .int .i64 0, .int .i64 0, .int .i64 0, .int .i64 0] 24) ∧ Aside0 (Below w.heap.size w wr)) (fun _ v5 _ => 4 - (intOf v5).toNat)
              case atStart => exact ⟨0, 0, 0, 0, 0, 0, rfl, rfl, by omega, by omega, ⟨Or.inl ⟨rfl, rfl, rfl, rfl, rfl, rfl⟩⟩, ⟨HG.out⟩, ⟨by repeat (first | (with_reducible first | exact HD.out | apply IsBlk.alloc | apply IsBlk.drewN | apply IsBlk.drew) | refine IsBlk.far ?_ hgD _)⟩, ⟨by repeat (first | (with_reducible first | exact HR.out | apply IsBlk.alloc | apply IsBlk.drewN | apply IsBlk.drew) | refine IsBlk.far ?_ hgR _)⟩, ⟨by repeat (first | (with_reducible first | exact HB.out | apply below_alloc | apply pw_below_drewN | apply below_drew1) | refine below_set ?_ hgB)⟩⟩
              case round =>
                clear G_0 G_1 G_2 G_3 G_4 G_5 G_6 G_7 G_8 G_9 G_10 G_11 G_z0 G_z1 G_z2 G_z3 G_z4 G_z5 G_z6 G_z7 G_z8 G_z9 G_z10 G_z11 G_l HG
                clear D_0 D_1 D_2 D_3 D_4 D_5 D_6 D_7 D_8 D_9 D_10 D_11 D_l HD
                clear HR HB
                obtain ⟨k, last, x0, x1, x2, x3, rfl, rfl, hk0, hk4, HS, HG1, HD1, HR, HB⟩ := hrel
                rcases (by omega : k = 0 ∨ k = 1 ∨ k = 2 ∨ k = 3 ∨ k = 4) with rfl | rfl | rfl | rfl | rfl
                · clear hk0 hk4
                  have hS := HS.out
                  unfold Stp at hS
                  have hS' : last = 0 ∧ x0 = 0 ∧ x1 = 0 ∧ x2 = 0 ∧ x3 = 0 := by omega
                  clear hS
                  obtain ⟨rfl, rfl, rfl, rfl, rfl⟩ := hS'
                  have hnr := near_range s0 0 60 (by decide)
                  obtain ⟨n, hn⟩ : ∃ n, nearV s0 0 60 = n := ⟨_, rfl⟩
                  rw [hn] at hnr
                  have HN := Aside0.mk hn
                  clear hn
                  have G := HG1.out
                  have D := HD1.out
                  clear HG1 HD1
                  have G_0 := blk_cell G 0
                  have G_1 := blk_cell G 1
                  have G_2 := blk_cell G 2
                  have G_3 := blk_cell G 3
                  have G_4 := blk_cell G 4
                  have G_5 := blk_cell G 5
                  have G_6 := blk_cell G 6
                  have G_7 := blk_cell G 7
                  have G_8 := blk_cell G 8
                  have G_9 := blk_cell G 9
                  have G_10 := blk_cell G 10
                  have G_11 := blk_cell G 11
                  simp only [List.getElem?_toArray, List.getElem?_cons_zero, List.getElem?_cons_succ] at G_0 G_1 G_2 G_3 G_4 G_5 G_6 G_7 G_8 G_9 G_10 G_11
                  have G_z0 := blk_frozen G 0
                  have G_z1 := blk_frozen G 1
                  have G_z2 := blk_frozen G 2
                  have G_z3 := blk_frozen G 3
                  have G_z4 := blk_frozen G 4
                  have G_z5 := blk_frozen G 5
                  have G_z6 := blk_frozen G 6
                  have G_z7 := blk_frozen G 7
                  have G_z8 := blk_frozen G 8
                  have G_z9 := blk_frozen G 9
                  have G_z10 := blk_frozen G 10
                  have G_z11 := blk_frozen G 11
                  have G_l := blk_lt G
                  have HG := Aside0.mk G
                  clear G
                  have D_0 := blk_cell D 0
                  have D_1 := blk_cell D 1
                  have D_2 := blk_cell D 2
                  have D_3 := blk_cell D 3
                  have D_4 := blk_cell D 4
                  have D_5 := blk_cell D 5
                  have D_6 := blk_cell D 6
                  have D_7 := blk_cell D 7
                  have D_8 := blk_cell D 8
                  have D_9 := blk_cell D 9
                  have D_10 := blk_cell D 10
                  have D_11 := blk_cell D 11
                  simp only [List.getElem?_toArray, List.getElem?_cons_zero, List.getElem?_cons_succ] at D_0 D_1 D_2 D_3 D_4 D_5 D_6 D_7 D_8 D_9 D_10 D_11
                  have D_l := blk_lt D
                  have HD := Aside0.mk D
                  clear D
                  go_wp2_with fail
                  (with_reducible refine (near_q s0 0 60 (by omega) (by omega) (by omega) (by omega) _).mono ?_)
                  rw [HN.out]
                  rintro e w' ⟨rfl, rfl⟩
                  have t1 : (n + 1 == 0) = false := by simp; omega
                  have t2 : decide (100 < n + 1) = false := by simp; omega
                  have t3 : 0 ≤ n ∧ n < 60 := by omega
                  go_wp2_with fail
                  go_roundw
                  case rel => exact ⟨1, (n + 1), (n + 1), 0, 0, 0, rfl, rfl, by omega, by omega, ⟨by unfold Stp; omega⟩, ⟨(by unfold IsBlk; (with_reducible repeat (first | refine blk_drewN ?_ _ | refine blk_drew ?_ | refine blk_alloc ?_ _)); refine blk_put (cs := #[.int .i64 nv, .int .i64 nd, .int .i64 s', .int .i64 u', .int .i64 0, .int .i64 0, .int .i64 0, .int .i64 0, .int .i64 0, .int .i64 0, .int .i64 0, .int .i64 0]) ?_ 5 _ rfl; (with_reducible repeat (first | refine blk_drewN ?_ _ | refine blk_drew ?_ | refine blk_alloc ?_ _)); exact HG.out)⟩, ⟨by repeat (first | (with_reducible first | exact HD.out | apply IsBlk.alloc | apply IsBlk.drewN | apply IsBlk.drew) | refine IsBlk.far ?_ hgD _)⟩, ⟨by repeat (first | (with_reducible first | exact HR.out | apply IsBlk.alloc | apply IsBlk.drewN | apply IsBlk.drew) | refine IsBlk.far ?_ hgR _)⟩, ⟨by repeat (first | (with_reducible first | exact HB.out | apply below_alloc | apply pw_below_drewN | apply below_drew1) | refine below_set ?_ hgB)⟩⟩
                  case measure => simp [intOf]
                · clear hk0 hk4
                  have hS := HS.out
                  unfold Stp at hS
                  have hS' : x0 = last ∧ x1 = 0 ∧ x2 = 0 ∧ x3 = 0 ∧ 1 ≤ x0 ∧ x0 ≤ 100 := by omega
                  clear hS
                  obtain ⟨rfl, rfl, rfl, rfl, hx⟩ := hS'
                  have hnr := near_range s1 0 60 (by decide)
                  obtain ⟨n, hn⟩ : ∃ n, nearV s1 0 60 = n := ⟨_, rfl⟩
                  rw [hn] at hnr
                  have HN := Aside0.mk hn
                  clear hn
                  have G := HG1.out
                  have D := HD1.out
                  clear HG1 HD1
                  have G_0 := blk_cell G 0
                  have G_1 := blk_cell G 1
                  have G_2 := blk_cell G 2
                  have G_3 := blk_cell G 3
                  have G_4 := blk_cell G 4
                  have G_5 := blk_cell G 5
                  have G_6 := blk_cell G 6
                  have G_7 := blk_cell G 7
                  have G_8 := blk_cell G 8
                  have G_9 := blk_cell G 9
                  have G_10 := blk_cell G 10
                  have G_11 := blk_cell G 11
                  simp only [List.getElem?_toArray, List.getElem?_cons_zero, List.getElem?_cons_succ] at G_0 G_1 G_2 G_3 G_4 G_5 G_6 G_7 G_8 G_9 G_10 G_11
                  have G_z0 := blk_frozen G 0
                  have G_z1 := blk_frozen G 1
                  have G_z2 := blk_frozen G 2
                  have G_z3 := blk_frozen G 3
                  have G_z4 := blk_frozen G 4
                  have G_z5 := blk_frozen G 5
                  have G_z6 := blk_frozen G 6
                  have G_z7 := blk_frozen G 7
                  have G_z8 := blk_frozen G 8
                  have G_z9 := blk_frozen G 9
                  have G_z10 := blk_frozen G 10
                  have G_z11 := blk_frozen G 11
                  have G_l := blk_lt G
                  have HG := Aside0.mk G
                  clear G
                  have D_0 := blk_cell D 0
                  have D_1 := blk_cell D 1
                  have D_2 := blk_cell D 2
                  have D_3 := blk_cell D 3
                  have D_4 := blk_cell D 4
                  have D_5 := blk_cell D 5
                  have D_6 := blk_cell D 6
                  have D_7 := blk_cell D 7
                  have D_8 := blk_cell D 8
                  have D_9 := blk_cell D 9
                  have D_10 := blk_cell D 10
                  have D_11 := blk_cell D 11
                  simp only [List.getElem?_toArray, List.getElem?_cons_zero, List.getElem?_cons_succ] at D_0 D_1 D_2 D_3 D_4 D_5 D_6 D_7 D_8 D_9 D_10 D_11
                  have D_l := blk_lt D
                  have HD := Aside0.mk D
                  clear D
                  go_wp2_with fail
                  (with_reducible refine (near_q s1 0 60 (by omega) (by omega) (by omega) (by omega) _).mono ?_)
                  rw [HN.out]
                  rintro e w' ⟨rfl, rfl⟩
                  by_cases hn0 : n = 0
                  · subst hn0
                    go_wp2_with fail
                    go_meet
                    exact ⟨x0, 0, 0, 0, ⟨HG.out⟩, ⟨fun h => absurd rfl h⟩, ⟨fun _ => ⟨1, x0, by omega, by unfold Stp; omega⟩⟩, ⟨by repeat (first | (with_reducible first | exact HD.out | apply IsBlk.alloc | apply IsBlk.drewN | apply IsBlk.drew) | refine IsBlk.far ?_ hgD _)⟩, ⟨by repeat (first | (with_reducible first | exact HR.out | apply IsBlk.alloc | apply IsBlk.drewN | apply IsBlk.drew) | refine IsBlk.far ?_ hgR _)⟩, ⟨by repeat (first | (with_reducible first | exact HB.out | apply below_alloc | apply pw_below_drewN | apply below_drew1) | refine below_set ?_ hgB)⟩⟩
                  · have t1 : (n == 0) = false := by simpa using hn0
                    by_cases hn1 : 100 < x0 + n
                    · have t2 : decide (100 < x0 + n) = true := by simpa using hn1
                      go_wp2_with fail
                      go_meet
                      exact ⟨x0, 0, 0, 0, ⟨HG.out⟩, ⟨fun h => absurd rfl h⟩, ⟨fun _ => ⟨1, x0, by omega, by unfold Stp; omega⟩⟩, ⟨by repeat (first | (with_reducible first | exact HD.out | apply IsBlk.alloc | apply IsBlk.drewN | apply IsBlk.drew) | refine IsBlk.far ?_ hgD _)⟩, ⟨by repeat (first | (with_reducible first | exact HR.out | apply IsBlk.alloc | apply IsBlk.drewN | apply IsBlk.drew) | refine IsBlk.far ?_ hgR _)⟩, ⟨by repeat (first | (with_reducible first | exact HB.out | apply below_alloc | apply pw_below_drewN | apply below_drew1) | refine below_set ?_ hgB)⟩⟩
                    · have t2 : decide (100 < x0 + n) = false := by simpa using hn1
                      go_wp2_with fail
                      go_roundw
                      case rel => exact ⟨2, (x0 + n), x0, (x0 + n), 0, 0, rfl, rfl, by omega, by omega, ⟨by unfold Stp; omega⟩, ⟨(by unfold IsBlk; (with_reducible repeat (first | refine blk_drewN ?_ _ | refine blk_drew ?_ | refine blk_alloc ?_ _)); refine blk_put (cs := #[.int .i64 nv, .int .i64 nd, .int .i64 s', .int .i64 u', .int .i64 0, .int .i64 x0, .int .i64 0, .int .i64 0, .int .i64 0, .int .i64 0, .int .i64 0, .int .i64 0]) ?_ 6 _ rfl; (with_reducible repeat (first | refine blk_drewN ?_ _ | refine blk_drew ?_ | refine blk_alloc ?_ _)); exact HG.out)⟩, ⟨by repeat (first | (with_reducible first | exact HD.out | apply IsBlk.alloc | apply IsBlk.drewN | apply IsBlk.drew) | refine IsBlk.far ?_ hgD _)⟩, ⟨by repeat (first | (with_reducible first | exact HR.out | apply IsBlk.alloc | apply IsBlk.drewN | apply IsBlk.drew) | refine IsBlk.far ?_ hgR _)⟩, ⟨by repeat (first | (with_reducible first | exact HB.out | apply below_alloc | apply pw_below_drewN | apply below_drew1) | refine below_set ?_ hgB)⟩⟩
                      case measure => simp [intOf]
                · clear hk0 hk4
                  have hS := HS.out
                  unfold Stp at hS
                  have hS' : x1 = last ∧ x2 = 0 ∧ x3 = 0 ∧ 1 ≤ x0 ∧ x0 < x1 ∧ x1 ≤ 100 := by omega
                  clear hS
                  obtain ⟨rfl, rfl, rfl, hx⟩ := hS'
                  have hnr := near_range s2 0 60 (by decide)
                  obtain ⟨n, hn⟩ : ∃ n, nearV s2 0 60 = n := ⟨_, rfl⟩
                  rw [hn] at hnr
                  have HN := Aside0.mk hn
                  clear hn
                  have G := HG1.out
                  have D := HD1.out
                  clear HG1 HD1
                  have G_0 := blk_cell G 0
                  have G_1 := blk_cell G 1
                  have G_2 := blk_cell G 2
                  have G_3 := blk_cell G 3
                  have G_4 := blk_cell G 4
                  have G_5 := blk_cell G 5
                  have G_6 := blk_cell G 6
                  have G_7 := blk_cell G 7
                  have G_8 := blk_cell G 8
                  have G_9 := blk_cell G 9
                  have G_10 := blk_cell G 10
                  have G_11 := blk_cell G 11
                  simp only [List.getElem?_toArray, List.getElem?_cons_zero, List.getElem?_cons_succ] at G_0 G_1 G_2 G_3 G_4 G_5 G_6 G_7 G_8 G_9 G_10 G_11
                  have G_z0 := blk_frozen G 0
                  have G_z1 := blk_frozen G 1
                  have G_z2 := blk_frozen G 2
                  have G_z3 := blk_frozen G 3
                  have G_z4 := blk_frozen G 4
                  have G_z5 := blk_frozen G 5
                  have G_z6 := blk_frozen G 6
                  have G_z7 := blk_frozen G 7
                  have G_z8 := blk_frozen G 8
                  have G_z9 := blk_frozen G 9
                  have G_z10 := blk_frozen G 10
                  have G_z11 := blk_frozen G 11
                  have G_l := blk_lt G
                  have HG := Aside0.mk G
                  clear G
                  have D_0 := blk_cell D 0
                  have D_1 := blk_cell D 1
                  have D_2 := blk_cell D 2
                  have D_3 := blk_cell D 3
                  have D_4 := blk_cell D 4
                  have D_5 := blk_cell D 5
                  have D_6 := blk_cell D 6
                  have D_7 := blk_cell D 7
                  have D_8 := blk_cell D 8
                  have D_9 := blk_cell D 9
                  have D_10 := blk_cell D 10
                  have D_11 := blk_cell D 11
                  simp only [List.getElem?_toArray, List.getElem?_cons_zero, List.getElem?_cons_succ] at D_0 D_1 D_2 D_3 D_4 D_5 D_6 D_7 D_8 D_9 D_10 D_11
                  have D_l := blk_lt D
                  have HD := Aside0.mk D
                  clear D
                  go_wp2_with fail
                  (with_reducible refine (near_q s2 0 60 (by omega) (by omega) (by omega) (by omega) _).mono ?_)
                  rw [HN.out]
                  rintro e w' ⟨rfl, rfl⟩
                  by_cases hn0 : n = 0
                  · subst hn0
                    go_wp2_with fail
                    go_meet
                    exact ⟨x0, x1, 0, 0, ⟨HG.out⟩, ⟨fun h => absurd rfl h⟩, ⟨fun _ => ⟨2, x1, by omega, by unfold Stp; omega⟩⟩, ⟨by repeat (first | (with_reducible first | exact HD.out | apply IsBlk.alloc | apply IsBlk.drewN | apply IsBlk.drew) | refine IsBlk.far ?_ hgD _)⟩, ⟨by repeat (first | (with_reducible first | exact HR.out | apply IsBlk.alloc | apply IsBlk.drewN | apply IsBlk.drew) | refine IsBlk.far ?_ hgR _)⟩, ⟨by repeat (first | (with_reducible first | exact HB.out | apply below_alloc | apply pw_below_drewN | apply below_drew1) | refine below_set ?_ hgB)⟩⟩
                  · have t1 : (n == 0) = false := by simpa using hn0
                    by_cases hn1 : 100 < x1 + n
                    · have t2 : decide (100 < x1 + n) = true := by simpa using hn1
                      go_wp2_with fail
                      go_meet
                      exact ⟨x0, x1, 0, 0, ⟨HG.out⟩, ⟨fun h => absurd rfl h⟩, ⟨fun _ => ⟨2, x1, by omega, by unfold Stp; omega⟩⟩, ⟨by repeat (first | (with_reducible first | exact HD.out | apply IsBlk.alloc | apply IsBlk.drewN | apply IsBlk.drew) | refine IsBlk.far ?_ hgD _)⟩, ⟨by repeat (first | (with_reducible first | exact HR.out | apply IsBlk.alloc | apply IsBlk.drewN | apply IsBlk.drew) | refine IsBlk.far ?_ hgR _)⟩, ⟨by repeat (first | (with_reducible first | exact HB.out | apply below_alloc | apply pw_below_drewN | apply below_drew1) | refine below_set ?_ hgB)⟩⟩
                    · have t2 : decide (100 < x1 + n) = false := by simpa using hn1
                      go_wp2_with fail
                      go_roundw
                      case rel => exact ⟨3, (x1 + n), x0, x1, (x1 + n), 0, rfl, rfl, by omega, by omega, ⟨by unfold Stp; omega⟩, ⟨(by unfold IsBlk; (with_reducible repeat (first | refine blk_drewN ?_ _ | refine blk_drew ?_ | refine blk_alloc ?_ _)); refine blk_put (cs := #[.int .i64 nv, .int .i64 nd, .int .i64 s', .int .i64 u', .int .i64 0, .int .i64 x0, .int .i64 x1, .int .i64 0, .int .i64 0, .int .i64 0, .int .i64 0, .int .i64 0]) ?_ 7 _ rfl; (with_reducible repeat (first | refine blk_drewN ?_ _ | refine blk_drew ?_ | refine blk_alloc ?_ _)); exact HG.out)⟩, ⟨by repeat (first | (with_reducible first | exact HD.out | apply IsBlk.alloc | apply IsBlk.drewN | apply IsBlk.drew) | refine IsBlk.far ?_ hgD _)⟩, ⟨by repeat (first | (with_reducible first | exact HR.out | apply IsBlk.alloc | apply IsBlk.drewN | apply IsBlk.drew) | refine IsBlk.far ?_ hgR _)⟩, ⟨by repeat (first | (with_reducible first | exact HB.out | apply below_alloc | apply pw_below_drewN | apply below_drew1) | refine below_set ?_ hgB)⟩⟩
                      case measure => simp [intOf]
                · clear hk0 hk4
                  have hS := HS.out
                  unfold Stp at hS
                  have hS' : x2 = last ∧ x3 = 0 ∧ 1 ≤ x0 ∧ x0 < x1 ∧ x1 < x2 ∧ x2 ≤ 100 := by omega
                  clear hS
                  obtain ⟨rfl, rfl, hx⟩ := hS'
                  have hnr := near_range s3 0 60 (by decide)
                  obtain ⟨n, hn⟩ : ∃ n, nearV s3 0 60 = n := ⟨_, rfl⟩
                  rw [hn] at hnr
                  have HN := Aside0.mk hn
                  clear hn
                  have G := HG1.out
                  have D := HD1.out
                  clear HG1 HD1
                  have G_0 := blk_cell G 0
                  have G_1 := blk_cell G 1
                  have G_2 := blk_cell G 2
                  have G_3 := blk_cell G 3
                  have G_4 := blk_cell G 4
                  have G_5 := blk_cell G 5
                  have G_6 := blk_cell G 6
                  have G_7 := blk_cell G 7
                  have G_8 := blk_cell G 8
                  have G_9 := blk_cell G 9
                  have G_10 := blk_cell G 10
                  have G_11 := blk_cell G 11
                  simp only [List.getElem?_toArray, List.getElem?_cons_zero, List.getElem?_cons_succ] at G_0 G_1 G_2 G_3 G_4 G_5 G_6 G_7 G_8 G_9 G_10 G_11
                  have G_z0 := blk_frozen G 0
                  have G_z1 := blk_frozen G 1
                  have G_z2 := blk_frozen G 2
                  have G_z3 := blk_frozen G 3
                  have G_z4 := blk_frozen G 4
                  have G_z5 := blk_frozen G 5
                  have G_z6 := blk_frozen G 6
                  have G_z7 := blk_frozen G 7
                  have G_z8 := blk_frozen G 8
                  have G_z9 := blk_frozen G 9
                  have G_z10 := blk_frozen G 10
                  have G_z11 := blk_frozen G 11
                  have G_l := blk_lt G
                  have HG := Aside0.mk G
                  clear G
                  have D_0 := blk_cell D 0
                  have D_1 := blk_cell D 1
                  have D_2 := blk_cell D 2
                  have D_3 := blk_cell D 3
                  have D_4 := blk_cell D 4
                  have D_5 := blk_cell D 5
                  have D_6 := blk_cell D 6
                  have D_7 := blk_cell D 7
                  have D_8 := blk_cell D 8
                  have D_9 := blk_cell D 9
                  have D_10 := blk_cell D 10
                  have D_11 := blk_cell D 11
                  simp only [List.getElem?_toArray, List.getElem?_cons_zero, List.getElem?_cons_succ] at D_0 D_1 D_2 D_3 D_4 D_5 D_6 D_7 D_8 D_9 D_10 D_11
                  have D_l := blk_lt D
                  have HD := Aside0.mk D
                  clear D
                  go_wp2_with fail
                  (with_reducible refine (near_q s3 0 60 (by omega) (by omega) (by omega) (by omega) _).mono ?_)
                  rw [HN.out]
                  rintro e w' ⟨rfl, rfl⟩
                  by_cases hn0 : n = 0
                  · subst hn0
                    go_wp2_with fail
                    go_meet
                    exact ⟨x0, x1, x2, 0, ⟨HG.out⟩, ⟨fun h => absurd rfl h⟩, ⟨fun _ => ⟨3, x2, by omega, by unfold Stp; omega⟩⟩, ⟨by repeat (first | (with_reducible first | exact HD.out | apply IsBlk.alloc | apply IsBlk.drewN | apply IsBlk.drew) | refine IsBlk.far ?_ hgD _)⟩, ⟨by repeat (first | (with_reducible first | exact HR.out | apply IsBlk.alloc | apply IsBlk.drewN | apply IsBlk.drew) | refine IsBlk.far ?_ hgR _)⟩, ⟨by repeat (first | (with_reducible first | exact HB.out | apply below_alloc | apply pw_below_drewN | apply below_drew1) | refine below_set ?_ hgB)⟩⟩
                  · have t1 : (n == 0) = false := by simpa using hn0
                    by_cases hn1 : 100 < x2 + n
                    · have t2 : decide (100 < x2 + n) = true := by simpa using hn1
                      go_wp2_with fail
                      go_meet
                      exact ⟨x0, x1, x2, 0, ⟨HG.out⟩, ⟨fun h => absurd rfl h⟩, ⟨fun _ => ⟨3, x2, by omega, by unfold Stp; omega⟩⟩, ⟨by repeat (first | (with_reducible first | exact HD.out | apply IsBlk.alloc | apply IsBlk.drewN | apply IsBlk.drew) | refine IsBlk.far ?_ hgD _)⟩, ⟨by repeat (first | (with_reducible first | exact HR.out | apply IsBlk.alloc | apply IsBlk.drewN | apply IsBlk.drew) | refine IsBlk.far ?_ hgR _)⟩, ⟨by repeat (first | (with_reducible first | exact HB.out | apply below_alloc | apply pw_below_drewN | apply below_drew1) | refine below_set ?_ hgB)⟩⟩
                    · have t2 : decide (100 < x2 + n) = false := by simpa using hn1
                      go_wp2_with fail
                      go_roundw
                      case rel => exact ⟨4, (x2 + n), x0, x1, x2, (x2 + n), rfl, rfl, by omega, by omega, ⟨by unfold Stp; omega⟩, ⟨(by unfold IsBlk; (with_reducible repeat (first | refine blk_drewN ?_ _ | refine blk_drew ?_ | refine blk_alloc ?_ _)); refine blk_put (cs := #[.int .i64 nv, .int .i64 nd, .int .i64 s', .int .i64 u', .int .i64 0, .int .i64 x0, .int .i64 x1, .int .i64 x2, .int .i64 0, .int .i64 0, .int .i64 0, .int .i64 0]) ?_ 8 _ rfl; (with_reducible repeat (first | refine blk_drewN ?_ _ | refine blk_drew ?_ | refine blk_alloc ?_ _)); exact HG.out)⟩, ⟨by repeat (first | (with_reducible first | exact HD.out | apply IsBlk.alloc | apply IsBlk.drewN | apply IsBlk.drew) | refine IsBlk.far ?_ hgD _)⟩, ⟨by repeat (first | (with_reducible first | exact HR.out | apply IsBlk.alloc | apply IsBlk.drewN | apply IsBlk.drew) | refine IsBlk.far ?_ hgR _)⟩, ⟨by repeat (first | (with_reducible first | exact HB.out | apply below_alloc | apply pw_below_drewN | apply below_drew1) | refine below_set ?_ hgB)⟩⟩
                      case measure => simp [intOf]
                · clear hk0 hk4
                  have HD := HD1
                  go_wp2_with fail
                  go_meet
                  exact ⟨x0, x1, x2, x3, HG1, ⟨fun h => absurd rfl h⟩, ⟨fun _ => ⟨4, last, by omega, HS.out⟩⟩, ⟨by repeat (first | (with_reducible first | exact HD.out | apply IsBlk.alloc | apply IsBlk.drewN | apply IsBlk.drew) | refine IsBlk.far ?_ hgD _)⟩, ⟨by repeat (first | (with_reducible first | exact HR.out | apply IsBlk.alloc | apply IsBlk.drewN | apply IsBlk.drew) | refine IsBlk.far ?_ hgR _)⟩, ⟨by repeat (first | (with_reducible first | exact HB.out | apply below_alloc | apply pw_below_drewN | apply below_drew1) | refine below_set ?_ hgB)⟩⟩
            · have t0 : (nst == 0) = false := by simpa using h0
              have HH := Aside0.mk h0
              clear h0
              go_wp2_with fail
              go_meet
              exact ⟨0, 0, 0, 0, ⟨HG.out⟩, ⟨fun _ => ⟨rfl, rfl, rfl, rfl⟩⟩, ⟨fun h => absurd h HH.out⟩, ⟨by repeat (first | (with_reducible first | exact HD.out | apply IsBlk.alloc | apply IsBlk.drewN | apply IsBlk.drew) | refine IsBlk.far ?_ hgD _)⟩, ⟨by repeat (first | (with_reducible first | exact HR.out | apply IsBlk.alloc | apply IsBlk.drewN | apply IsBlk.drew) | refine IsBlk.far ?_ hgR _)⟩, ⟨by repeat (first | (with_reducible first | exact HB.out | apply below_alloc | apply pw_below_drewN | apply below_drew1) | refine below_set ?_ hgB)⟩⟩
          case rest =>
            clear G_0 G_1 G_2 G_3 G_4 G_5 G_6 G_7 G_8 G_9 G_10 G_11 G_z0 G_z1 G_z2 G_z3 G_z4 G_z5 G_z6 G_z7 G_z8 G_z9 G_z10 G_z11 G_l HG
            clear D_0 D_1 D_2 D_3 D_4 D_5 D_6 D_7 D_8 D_9 D_10 D_11 D_l HD
            clear HR HB
            obtain ⟨x0, x1, x2, x3, HG0, HNO, HYES, HD0, HR0, HB⟩ := hcut
            have G := HG0.out
            have D := HD0.out
            clear HG0 HD0
            have G_0 := blk_cell G 0
            have G_1 := blk_cell G 1
            have G_2 := blk_cell G 2
            have G_3 := blk_cell G 3
            have G_4 := blk_cell G 4
            have G_5 := blk_cell G 5
            have G_6 := blk_cell G 6
            have G_7 := blk_cell G 7
            have G_8 := blk_cell G 8
            have G_9 := blk_cell G 9
            have G_10 := blk_cell G 10
            have G_11 := blk_cell G 11
            simp only [List.getElem?_toArray, List.getElem?_cons_zero, List.getElem?_cons_succ] at G_0 G_1 G_2 G_3 G_4 G_5 G_6 G_7 G_8 G_9 G_10 G_11
            have G_z0 := blk_frozen G 0
            have G_z1 := blk_frozen G 1
            have G_z2 := blk_frozen G 2
            have G_z3 := blk_frozen G 3
            have G_z4 := blk_frozen G 4
            have G_z5 := blk_frozen G 5
            have G_z6 := blk_frozen G 6
            have G_z7 := blk_frozen G 7
            have G_z8 := blk_frozen G 8
            have G_z9 := blk_frozen G 9
            have G_z10 := blk_frozen G 10
            have G_z11 := blk_frozen G 11
            have G_l := blk_lt G
            have HG := Aside0.mk G
            clear G
            have D_0 := blk_cell D 0
            have D_1 := blk_cell D 1
            have D_2 := blk_cell D 2
            have D_3 := blk_cell D 3
            have D_4 := blk_cell D 4
            have D_5 := blk_cell D 5
            have D_6 := blk_cell D 6
            have D_7 := blk_cell D 7
            have D_8 := blk_cell D 8
            have D_9 := blk_cell D 9
            have D_10 := blk_cell D 10
            have D_11 := blk_cell D 11
            simp only [List.getElem?_toArray, List.getElem?_cons_zero, List.getElem?_cons_succ] at D_0 D_1 D_2 D_3 D_4 D_5 D_6 D_7 D_8 D_9 D_10 D_11
            have D_l := blk_lt D
            have HD := Aside0.mk D
            clear D
            have R := HR0.out
            clear HR0
            have R_0 := blk_cell R 0
            have R_1 := blk_cell R 1
            have R_2 := blk_cell R 2
            have R_3 := blk_cell R 3
            have R_4 := blk_cell R 4
            have R_5 := blk_cell R 5
            have R_6 := blk_cell R 6
            have R_7 := blk_cell R 7
            have R_8 := blk_cell R 8
            have R_9 := blk_cell R 9
            have R_10 := blk_cell R 10
            have R_11 := blk_cell R 11
            simp only [List.getElem?_toArray, List.getElem?_cons_zero, List.getElem?_cons_succ] at R_0 R_1 R_2 R_3 R_4 R_5 R_6 R_7 R_8 R_9 R_10 R_11
            have R_z0 := blk_frozen R 0
            have R_z1 := blk_frozen R 1
            have R_z2 := blk_frozen R 2
            have R_z3 := blk_frozen R 3
            have R_z4 := blk_frozen R 4
            have R_z5 := blk_frozen R 5
            have R_z6 := blk_frozen R 6
            have R_z7 := blk_frozen R 7
            have R_z8 := blk_frozen R 8
            have R_z9 := blk_frozen R 9
            have R_z10 := blk_frozen R 10
            have R_z11 := blk_frozen R 11
            have R_l := blk_lt R
            have HR := Aside0.mk R
            clear R
            have hp9 := near_range p 1 9 (by decide)
            have hq4 := near_range q 0 4 (by decide)
            have hr60 := near_range r 1 60 (by decide)
            have hgR' : g ≠ w.heap.size + 1 := by omega
            go_wp2_with (go_at_call 28; (with_reducible refine (near_q _ _ _ (by omega) (by omega) (by omega) (by omega) _).mono ?_); rintro e w' ⟨rfl, rfl⟩)
            refine bodyPost_ret (v := .agg #[.int .i64 nv, .int .i64 nd, .int .i64 s', .int .i64 u', .int .i64 nst, .int .i64 x0, .int .i64 x1, .int .i64 x2, .int .i64 x3, .int .i64 (nearV p 1 9), .int .i64 (nearV q 0 4), .int .i64 (nearV r 1 60)]) (by simp [results, Try.results17, go_sem, *]) rfl ⟨_, _, _, _, _, _, _, _, _, _, _, _, rfl, ?_, ?_⟩
            · exact ⟨by omega, by omega, by omega, by omega, HS2.out, by omega, HSU.out, HNO.out, HYES.out, by omega, by omega, by omega⟩
            · repeat (first | (with_reducible exact HB.out) | refine below_set ?_ (by first | exact hgB | omega))
end Go.Proofs.Ytloljhopccpeeaa.B3
