/-
  Proved here: what batch.Share answers. No condition.
-/
import Derived.Test.YtfnpepfabbgpfaaB4
import Derived.Test.YtfnpepfabbgpfaaB3
import Derived.RegionTactic
import Derived.ChangeAlike
namespace Go.Proofs.Ytfnpepfabbgpfaa.B7
open Go.RowKit Go.Sort Go.Proofs.Ytfnpepfabbgpfaa.B0 Go.Proofs.Ytfnpepfabbgpfaa.B1 Go.Proofs.Ytfnpepfabbgpfaa.B1z Go.Proofs.Ytfnpepfabbgpfaa.B2 Go.Proofs.Ytfnpepfabbgpfaa.B4 Go.Proofs.YtfnpepfabbgpfaaW.PrintWords Go.Proofs.YtfnpepfabbgpfaaW.PrintLast Go.Proofs.YtfnpepfabbgpfaaW.PrintMore
set_option linter.unusedVariables false
set_option linter.unusedSimpArgs false
attribute [local go_sem] max2_int min2_int max_two min_two

/-- What stands in the row when all places above k have their share. -/
def dif (l : List Int) (k : Nat) : List Int := (List.range l.length).map (fun j => if k < j then wrap64 (l.getD j 0 - l.getD (j - 1) 0) else l.getD j 0)
theorem dif_len (l : List Int) (k : Nat) : (dif l k).length = l.length := by simp [dif]
theorem dif_get (l : List Int) (k j : Nat) (hj : j < l.length) : (dif l k).getD j 0 = if k < j then wrap64 (l.getD j 0 - l.getD (j - 1) 0) else l.getD j 0 := by
  rw [List.getD_eq_getElem?_getD]
  simp [dif, hj]
theorem dif_top (l : List Int) : dif l (l.length - 1) = l := by
  apply List.ext_getElem
  · simp [dif]
  · intro j h1 h2
    simp only [dif, List.getElem_map, List.getElem_range]
    rw [if_neg (by omega)]
    simp [h2]
theorem dif_set (l : List Int) (k : Nat) (hk : k + 1 < l.length) : (dif l (k + 1)).set (k + 1) (wrap64 ((dif l (k + 1)).getD (k + 1) 0 - (dif l (k + 1)).getD k 0)) = dif l k := by
  rw [dif_get l (k + 1) (k + 1) hk, dif_get l (k + 1) k (by omega), if_neg (by omega), if_neg (by omega)]
  apply List.ext_getElem
  · simp [dif]
  · intro j h1 h2
    rw [List.getElem_set]
    have hj : j < l.length := by simpa [dif] using h2
    split
    · rename_i e
      subst e
      simp [dif]
    · rename_i e
      simp only [dif, List.getElem_map, List.getElem_range]
      by_cases hlt : k < j
      · rw [if_pos (by omega), if_pos hlt]
      · rw [if_neg (by omega), if_neg hlt]
/-- The shares up to a stage. -/
def shareL (v d s u st s0 s1 s2 s3 p q r i : Int) : List Int := if (targetV v d s u st s0 s1 s2 s3 p q r i == 0) = true then [] else dif ((targetsL v d s u st s0 s1 s2 s3 p q r).take (i.toNat + 1)) 0
theorem own_some_of {w : World} {base : Nat} {A : Option Addr} {n c : Nat} {xs : List Int} (h : RowI w base (.slice A n c) xs) (hn : 0 < xs.length) : ∃ g, A = some ⟨g, 0, none⟩ := by
  obtain ⟨inner, ho⟩ := Kd.R_own h
  rcases ho.2 with ⟨e, h0⟩ | ⟨g, cap, cur, e, _⟩
  · have := Value.slice.inj e
    obtain ⟨A', c', e', hl, hC⟩ := Kd.R_reads h
    cases e'
    obtain ⟨h1, h2, h3⟩ := this
    simp_all
  · have := Value.slice.inj e
    exact ⟨g, this.1⟩

set_option maxRecDepth 100000 in
set_option maxHeartbeats 4000000 in
theorem share_q (v d s u st s0 s1 s2 s3 p q r i : Int) (w : World) : Calls Try.prog 16 #[.agg #[.int .i64 v, .int .i64 d, .int .i64 s, .int .i64 u, .int .i64 st, .int .i64 s0, .int .i64 s1, .int .i64 s2, .int .i64 s3, .int .i64 p, .int .i64 q, .int .i64 r], .int .i64 i] w fun e w' => ∃ vv, e = .returned vv ∧ RowI w' w.heap.size vv (shareL v d s u st s0 s1 s2 s3 p q r i) ∧ Below w.heap.size w w' := by
  have HB := Aside0.mk (Below.refl w.heap.size w)
  cases hz : (targetV v d s u st s0 s1 s2 s3 p q r i == 0) with
  | true =>
    have e0 : targetV v d s u st s0 s1 s2 s3 p q r i = 0 := by simpa using hz
    have es : shareL v d s u st s0 s1 s2 s3 p q r i = [] := by unfold shareL; rw [hz]; rfl
    rw [es]
    clear es hz
    go_enter Try.func16, Try.ntmps16
    go_wp2_with fail
    refine (target_q v d s u st s0 s1 s2 s3 p q r i _).mono ?_
    rw [e0]
    rintro e w1 ⟨rfl, hb1⟩
    have n0 := Aside0.mk (below_step (by repeat (first | (with_reducible first | exact HB.out | apply below_alloc | apply pw_below_drewN | apply below_drew1) | refine below_set ?_ (by omega))) hb1)
    clear HB hb1
    have HB := n0
    clear n0
    go_wp2
    go_ret
    exact ⟨_, rfl, Kd.R_nil _ _ _ _ _, by repeat (first | (with_reducible first | exact HB.out | apply below_alloc | apply pw_below_drewN | apply below_drew1) | refine below_set ?_ (by omega))⟩
  | false =>
    have es : shareL v d s u st s0 s1 s2 s3 p q r i = dif ((targetsL v d s u st s0 s1 s2 s3 p q r).take (i.toNat + 1)) 0 := by unfold shareL; rw [hz]; rfl
    rw [es]
    clear es
    obtain ⟨t, ht⟩ : ∃ t, targetV v d s u st s0 s1 s2 s3 p q r i = t := ⟨_, rfl⟩
    have hin : 0 ≤ i ∧ i < (targetsL v d s u st s0 s1 s2 s3 p q r).length := by
      unfold targetV at hz
      split at hz
      · rename_i h; exact h
      · cases hz
    rw [ht] at hz
    obtain ⟨k, rfl⟩ : ∃ k : Nat, i = k := ⟨i.toNat, by omega⟩
    obtain ⟨l0, hl0⟩ : ∃ l, targetsL v d s u st s0 s1 s2 s3 p q r = l := ⟨_, rfl⟩
    have h5 := targets_upto v d s u st s0 s1 s2 s3 p q r
    rw [hl0] at hin h5 ⊢
    rw [show ((k : Int)).toNat = k from by simp]
    obtain ⟨lt, hlt⟩ : ∃ l, l0.take (k + 1) = l := ⟨_, rfl⟩
    rw [hlt]
    have hlen : lt.length = k + 1 := by rw [← hlt, List.length_take]; omega
    have HLT := Aside0.mk hlt
    have HLEN := Aside0.mk hlen
    have HT := Aside0.mk ht
    have HL := Aside0.mk hl0
    clear ht hl0 hlt hlen
    go_enter Try.func16, Try.ntmps16
    go_wp2_with fail
    refine (target_q v d s u st s0 s1 s2 s3 p q r k _).mono ?_
    rw [HT.out]
    rintro e w1 ⟨rfl, hb1⟩
    have D : IsBlk w1 (w.heap.size) #[.int .i64 v, .int .i64 d, .int .i64 s, .int .i64 u, .int .i64 st, .int .i64 s0, .int .i64 s1, .int .i64 s2, .int .i64 s3, .int .i64 p, .int .i64 q, .int .i64 r] 24 := IsBlk.below (by repeat (first | ((refine IsBlk.new _ _ ?_); (simp; done)) | apply IsBlk.alloc | apply IsBlk.drewN)) hb1
    have D_0 := blk_cell D 0
    have D_1 := blk_cell D 1
    have D_2 := blk_cell D 2
    have D_3 := blk_cell D 3
    have D_4 := blk_cell D 4
    have D_5 := blk_cell D 5
    have D_6 := blk_cell D 6
    have D_7 := blk_cell D 7
    have D_8 := blk_cell D 8
    have D_9 := blk_cell D 9
    have D_10 := blk_cell D 10
    have D_11 := blk_cell D 11
    simp only [List.getElem?_toArray, List.getElem?_cons_zero, List.getElem?_cons_succ] at D_0 D_1 D_2 D_3 D_4 D_5 D_6 D_7 D_8 D_9 D_10 D_11
    have D_l := blk_lt D
    have HD := Aside0.mk D
    clear D
    have n0 := Aside0.mk (below_step (by repeat (first | (with_reducible first | exact HB.out | apply below_alloc | apply pw_below_drewN | apply below_drew1) | refine below_set ?_ (by omega))) hb1)
    clear HB hb1
    have HB := n0
    clear n0
    go_wp2_with fail
    refine (targets_q v d s u st s0 s1 s2 s3 p q r _).mono ?_
    rw [HL.out]
    rintro e w2 ⟨vv, rfl, hR, hb1⟩
    obtain ⟨A1, c1, rfl, hlc, _⟩ := Kd.R_reads hR
    have hkl : k < l0.length := by omega
    obtain ⟨g, rfl⟩ := own_some_of hR (by omega)
    have hT := Kd.R_take hR (m := k + 1) (by omega)
    have HR := Aside0.mk hT
    clear hR hT
    have hgb : w1.heap.size ≤ g := by
      obtain ⟨inner, ho⟩ := Kd.R_own HR.out
      exact own_base ho g (by simp [Value.ownBlock])
    have HBw := HB
    have hB1 := Aside0.mk hb1
    clear HB hb1
    clear D_0 D_1 D_2 D_3 D_4 D_5 D_6 D_7 D_8 D_9 D_10 D_11 D_l HD
    have hkc : (k : Int) + 1 ≤ (c1 : Int) := by omega
    have hk4 : (k : Int) ≤ 4 := by omega
    rw [HLT.out] at HR
    clear hin h5 hkl
    go_wp2_with fail
    go_loopw [6] (fun v6 wr => ∃ j : Nat, v6 = .int .i64 j ∧ j ≤ k ∧ Aside0 (RowI wr w1.heap.size (.slice (some ⟨g, 0, none⟩) (k + 1) c1) (dif lt j)) ∧ Aside0 (Below w1.heap.size w1 wr)) (fun v6 _ => (intOf v6).toNat)
    case atStart => exact ⟨k, by first | rfl | go_num | (simp; done), Nat.le_refl _, ⟨by rw [show dif lt k = lt by have := dif_top lt; rw [HLEN.out] at this; exact this]; exact HR.out⟩, hB1⟩
    case round =>
      obtain ⟨j, rfl, hj, HR1, HB1⟩ := hrel
      rcases Nat.eq_zero_or_pos j with rfl | hpos
      · go_wp2
        go_ret
        exact ⟨_, rfl, Kd.R_lower HR1.out (below_size HBw.out), below_step HBw.out HB1.out⟩
      · obtain ⟨m, rfl⟩ : ∃ m, j = m + 1 := ⟨j - 1, by omega⟩
        have hx : (dif lt (m + 1)).length = k + 1 := by rw [dif_len, HLEN.out]
        obtain ⟨ca, fa⟩ := Kd.R_celln (0 : Int) HR1.out ((m + 1 : Nat) : Int) (by omega) (by omega)
        obtain ⟨cb, _⟩ := Kd.R_celln (0 : Int) HR1.out (m : Int) (by omega) (by omega)
        simp only [Int.toNat_natCast] at ca fa cb
        obtain ⟨a, ha⟩ : ∃ a, rdOf 0 (dif lt (m + 1)) ((m + 1 : Nat) : Int) = a := ⟨_, rfl⟩
        obtain ⟨b, hb⟩ : ∃ b, rdOf 0 (dif lt (m + 1)) (m : Int) = b := ⟨_, rfl⟩
        rw [ha] at ca
        rw [hb] at cb
        have hrow : RowI (wr.setCell ⟨g, m + 1, none⟩ (.int .i64 (wrap64 (a - b)))) w1.heap.size (.slice (some ⟨g, 0, none⟩) (k + 1) c1) (dif lt m) := by
          have h := (Kd.R_putg HR1.out ((m + 1 : Nat) : Int) (wrap64 (a - b))).1
          have e : (dif lt (m + 1)).set (((m + 1 : Nat) : Int)).toNat (wrap64 (a - b)) = dif lt m := by
            rw [Int.toNat_natCast, ← ha, ← hb]
            exact dif_set lt m (by rw [HLEN.out]; omega)
          rw [e, Int.toNat_natCast] at h
          exact h
        have HROW := Aside0.mk hrow
        clear hrow ha hb hx hpos
        have i0 : (0 : Int) ≤ (m : Int) := by omega
        have i1 : (m : Int) + 1 < (k : Int) + 1 := by omega
        have i2 : (m : Int) < (k : Int) + 1 := by omega
        have i3 : ((m : Int) + 1).toNat = m + 1 := by omega
        have i4 : IntKind.i64.wrap ((m : Int) + 1 - 1) = (m : Int) := by rw [B3.i64_wrap64, B3.wrap64_eq (by omega) (by omega)]; omega
        have i5 : decide (0 < (m : Int) + 1) = true := by simp
        have i6 : (0 : Int) ≤ (m : Int) + 1 := by omega
        go_wp2_with fail
        go_region
        all_goals
          go_wp2_with fail
          go_roundw
          case rel => exact ⟨m, by first | rfl | go_num | (simp; done), by omega, ⟨Kd.R_move HROW.out (fun _ _ => rfl)⟩, ⟨below_set (below_drew HB1.out) hgb⟩⟩
          case measure => simp [intOf]
end Go.Proofs.Ytfnpepfabbgpfaa.B7
